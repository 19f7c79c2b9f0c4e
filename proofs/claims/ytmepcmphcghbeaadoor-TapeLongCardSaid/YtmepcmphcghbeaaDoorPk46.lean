/- Texts of the abstract walk, of the contracts and of the plain laws, packed (part 46 of 48): Tq16 Tq17 Tq18 LsW Hsh Ftwrites Ftreads. Conditions: none. -/
import Derived.Test.YtmepcmphcghbeaaDoorPk45
import Derived.Shelf.LaysM
import Derived.Shelf.LaysC
import Derived.Shelf.Strings.FieldsAny
import Derived.Test.YtmepcmphcghbeaaDoorProg
import Derived.Handed
import Derived.HandedShaped
import Derived.Test.YtmepcmphcghbeaaDoorCards
import Derived.Test.YtmepcmphcghbeaaDoorTie
import Derived.LaidSub
import Derived.Lib.LaidTab
import Derived.Stop.LaidErr
import Derived.OpenShut
import Derived.ChangeOld
import Derived.Below
import Derived.Lib.LaidU8
import Derived.Shelf.Vars
import Derived.LaidMore
import Derived.Lay
import Derived.SevenTiedAt
import Derived.ChangeMaps5
namespace Go.Proofs.YtmepcmphcghbeaaDoor
open Go Go.RowKit
set_option maxRecDepth 100000
set_option maxHeartbeats 4000000
set_option linter.unusedSimpArgs false
set_option linter.unnecessarySimpa false
set_option linter.unusedVariables false
attribute [local irreducible] aops dRun
def bObs (q : AV) (bs : ByteArray) : List Ob := [.cells 75 [q, .own 1 bs.size], .row 5 1 (strRows bs)]
theorem strRows_data (bs : ByteArray) : ∀ x ∈ strRows bs, DataL x := fun x hx => by
  obtain ⟨y, _, rfl⟩ := List.mem_map.1 hx; exact .cons (.v _) .nil
theorem strRows_und {n : Nat} (bs : ByteArray) : ∀ x ∈ strRows bs, UndL n x := fun x hx => UndL.data (strRows_data bs x hx)
theorem Weak.noOs {st : St} : Weak st { st with os := [] } := Weak.mk (LeL.refl _) (fun _ _ h => by cases h) rfl rfl
theorem strRows_app (a b : ByteArray) : strRows a ++ strRows b = strRows (a ++ b) := by
  simp only [strRows, Lib.strCells, ← List.map_append]
  congr 2
theorem dataTup0 : Data (.tup []) := .tup (fun _ h => by cases h)
theorem copyCheck0 (bs : ByteArray) : ACalls Tryd.prog 53 [.ptr 0 0] (enumO 0 (bObs (.v (.pointer none)) bs)) 2 fun r os n => (r = .tup [] ∧ os = enumO 0 (bObs (.ptr 0 0) bs)) ∧ n = 2 := by
  refine ACalls.clean (C := fun r os' => r = _ ∧ os' = _) ?_
  refine ACalls_intro Tryd.func53 (by kernel_rfl) rfl (by rw [Tryd.ntmps53]; simp) (fun hm => ?_)
  simp only [Tryd.ntmps53, Tryd.results53, List.length_cons, List.length_nil, Nat.reduceAdd, Nat.reduceSub, List.replicate_succ, List.replicate_zero, List.cons_append, List.nil_append]
  simp only [bObs, enumO, Nat.reduceAdd]
  refine AWp_seqK fun Y0 y0 => ?_
  refine AWp_region ?_
  iterate 4 (refine aops_chunk 1 fun Q0 q0 => ?_; simp only [↓bO, go_sem, seval]; refine q0 _ ?_; clear q0 Q0; simp only [go_sem])
  simp only [↓bO, go_sem, seval]
  refine y0 _ ?_
  try clear y0 Y0
  refine AWp_cond rfl (fun hb6 => ?_) (fun hb6 => ?_)
  ·
   refine AWp_midK 2 [_, _, _] [_, _, _] rfl fun Q0 q0 => ?_
   simp only [go_sem]
   refine aops_chunk 1 fun Q0 q0 => ?_
   simp only [↓bO, go_sem, seval]
   refine q0 _ ?_
   clear q0 Q0
   simp only [go_sem]
   simp only [↓bO, go_sem, seval]
   refine q0 _ ?_
   clear q0 Q0
   refine MidAt_selfPtr (id := 0) rfl rfl (by simp) (by simp) (by simp) (by kernel_rfl) Tryd.func63 rfl rfl (by kernel_rfl) (by kernel_rfl) ?_
   simp only [putO, bS, bA]
   iterate 2 (refine aops_chunk 1 fun Q0 q0 => ?_; simp only [↓bO, go_sem, seval]; refine q0 _ ?_; clear q0 Q0; simp only [go_sem])
   simp only [↓bO, go_sem, seval]
   try simp only [thenQ, blockQ, noGotoQ, retQ, aRes, tupOf, bS, bA]
   refine ⟨_, _, ⟨rfl, rfl⟩, .data dataTup0, ⟨by omega, ⟨.ptr (by omega), .own (by omega), trivial⟩, by omega, strRows_und _, trivial⟩, Le.refl _, ⟨0, rfl, rfl⟩, by omega⟩
  ·
   exact absurd hb6 (by decide)
theorem copyCheck1 (bs : ByteArray) : ACalls Tryd.prog 53 [.ptr 0 0] (enumO 0 (bObs (.ptr 0 0) bs)) 2 fun r os n => (r = .tup [] ∧ os = enumO 0 (bObs (.ptr 0 0) bs)) ∧ n = 2 := by
  refine ACalls.clean (C := fun r os' => r = _ ∧ os' = _) ?_
  refine ACalls_intro Tryd.func53 (by kernel_rfl) rfl (by rw [Tryd.ntmps53]; simp) (fun hm => ?_)
  simp only [Tryd.ntmps53, Tryd.results53, List.length_cons, List.length_nil, Nat.reduceAdd, Nat.reduceSub, List.replicate_succ, List.replicate_zero, List.cons_append, List.nil_append]
  simp only [bObs, enumO, Nat.reduceAdd]
  refine AWp_seqK fun Y0 y0 => ?_
  refine AWp_region ?_
  iterate 4 (refine aops_chunk 1 fun Q0 q0 => ?_; simp only [↓bO, go_sem, seval]; refine q0 _ ?_; clear q0 Q0; simp only [go_sem])
  simp only [↓bO, go_sem, seval]
  refine y0 _ ?_
  try clear y0 Y0
  refine AWp_cond rfl (fun hb6 => ?_) (fun hb6 => ?_)
  ·
   exact absurd hb6 (by decide)
  ·
   refine AWp_seqK fun Y0 y0 => ?_
   refine AWp_midK 5 [_] [] rfl fun Q0 q0 => ?_
   iterate 4 (simp only [go_sem]; refine aops_chunk 1 fun Q0 q0 => ?_; simp only [↓bO, go_sem, seval]; refine q0 _ ?_; clear q0 Q0)
   simp only [go_sem]
   simp only [↓bO, go_sem, seval]
   refine q0 _ ?_
   clear q0 Q0
   refine MidAt_neqSelf (id := 0) (off := 0) rfl rfl (by kernel_rfl) ?_
   simp only [putO, bS, bA, aops, thenQ, blockQ, noGotoQ]
   refine y0 _ ?_
   try clear y0 Y0
   refine AWp_cond rfl (fun hb19 => ?_) (fun hb19 => ?_)
   ·
    exact absurd hb19 (by decide)
   ·
    refine AWp_skip ?_
    try simp only [thenQ, blockQ, noGotoQ]
    try simp only [thenQ, blockQ, noGotoQ, retQ, aRes, tupOf, bS, bA]
    refine ⟨_, _, ⟨rfl, rfl⟩, .data dataTup0, ⟨by omega, ⟨.ptr (by omega), .own (by omega), trivial⟩, by omega, strRows_und _, trivial⟩, Le.refl _, ⟨0, rfl, rfl⟩, by omega⟩
theorem WriteString0 (bs s : ByteArray) (h0 : 0 < s.size) (hl : bs.size + s.size ≤ 1048576) : ACalls Tryd.prog 37 [.ptr 0 0, .v (.string s)] (enumO 0 (bObs (.v (.pointer none)) bs)) 2 fun r os n => (r = .tup [.v (.int .i64 s.size), .v .nilIface] ∧ os = enumO 0 (bObs (.ptr 0 0) (bs ++ s))) ∧ n = 2 := by
  refine ACalls.clean (C := fun r os' => r = _ ∧ os' = _) ?_
  refine ACalls_intro Tryd.func37 (by kernel_rfl) rfl (by rw [Tryd.ntmps37]; simp) (fun hm => ?_)
  simp only [Tryd.ntmps37, Tryd.results37, List.length_cons, List.length_nil, Nat.reduceAdd, Nat.reduceSub, List.replicate_succ, List.replicate_zero, List.cons_append, List.nil_append]
  simp only [bObs, enumO, Nat.reduceAdd]
  refine AWp_seqK fun Y0 y0 => ?_
  refine AWp_region ?_
  refine aops_chunk 1 fun Q0 q0 => ?_
  simp only [↓bO, go_sem, seval, strRows_len, strRows_app, ByteArray.size_append]
  refine q0 _ ?_
  clear q0 Q0
  simp only [go_sem]
  simp only [↓bO, go_sem, seval, strRows_len, strRows_app, ByteArray.size_append]
  refine y0 _ ?_
  try clear y0 Y0
  refine AWp_seqK fun Y0 y0 => ?_
  refine AWp_region ?_
  refine aops_chunk 1 fun Q0 q0 => ?_
  simp only [↓bO, go_sem, seval, strRows_len, strRows_app, ByteArray.size_append]
  refine q0 _ ?_
  clear q0 Q0
  simp only [go_sem]
  simp only [↓bO, go_sem, seval, strRows_len, strRows_app, ByteArray.size_append]
  refine ACalls.mono (copyCheck0 bs) ?_
  rintro z os2 nx2 ⟨⟨rfl, rfl⟩, rfl⟩
  simp only [bObs, enumO, Nat.reduceAdd]
  try simp only [bS, bA, thenQ, blockQ, noGotoQ]
  refine y0 _ ?_
  try clear y0 Y0
  refine AWp_seqK fun Y0 y0 => ?_
  refine AWp_midK 6 [_] [_, _, _] rfl fun Q0 q0 => ?_
  iterate 5 (simp only [go_sem]; refine aops_chunk 1 fun Q0 q0 => ?_; simp only [↓bO, go_sem, seval, strRows_len, strRows_app, ByteArray.size_append]; refine q0 _ ?_; clear q0 Q0)
  simp only [go_sem]
  simp only [↓bO, go_sem, seval, strRows_len, strRows_app, ByteArray.size_append]
  refine q0 _ ?_
  clear q0 Q0
  refine MidAt_appendStr (id := 1) rfl rfl rfl (strRows_len _).symm ei50 (by kernel_rfl) h0 (by rw [strRows_len]; omega) (by rw [strRows_len]; simp only [maxLen]; omega) ?_
  simp only [putO, bS, bA, strRows_len, strRows_app, ByteArray.size_append]
  iterate 2 (refine aops_chunk 1 fun Q0 q0 => ?_; simp only [↓bO, go_sem, seval, strRows_len, strRows_app, ByteArray.size_append]; refine q0 _ ?_; clear q0 Q0; simp only [go_sem])
  simp only [↓bO, go_sem, seval, strRows_len, strRows_app, ByteArray.size_append]
  refine y0 _ ?_
  try clear y0 Y0
  refine AWp_seqK fun Y0 y0 => ?_
  refine AWp_region ?_
  iterate 3 (refine aops_chunk 1 fun Q0 q0 => ?_; simp only [↓bO, go_sem, seval, strRows_len, strRows_app, ByteArray.size_append]; refine q0 _ ?_; clear q0 Q0; simp only [go_sem])
  simp only [↓bO, go_sem, seval, strRows_len, strRows_app, ByteArray.size_append]
  refine y0 _ ?_
  try clear y0 Y0
  refine AWp_ret ?_
  try simp only [thenQ, blockQ, noGotoQ, retQ, aRes, tupOf, bS, bA]
  refine ⟨_, [(0, .cells 75 [.ptr 0 0, .own 1 (bs ++ s).size]), (1, .row 5 1 (strRows (bs ++ s)))], ⟨rfl, by first | rfl | simp only [ByteArray.size_append]⟩, .data (.tup (.cons (.v _) (.cons (.v _) .nil))), ⟨by omega, ⟨.ptr (by omega), .own (by omega), trivial⟩, by omega, strRows_und _, trivial⟩, Le.refl _, ⟨0, by (rw [ByteArray.size_append]; rfl), rfl⟩, by omega⟩
theorem WriteString1 (bs s : ByteArray) (h0 : 0 < s.size) (hl : bs.size + s.size ≤ 1048576) : ACalls Tryd.prog 37 [.ptr 0 0, .v (.string s)] (enumO 0 (bObs (.ptr 0 0) bs)) 2 fun r os n => (r = .tup [.v (.int .i64 s.size), .v .nilIface] ∧ os = enumO 0 (bObs (.ptr 0 0) (bs ++ s))) ∧ n = 2 := by
  refine ACalls.clean (C := fun r os' => r = _ ∧ os' = _) ?_
  refine ACalls_intro Tryd.func37 (by kernel_rfl) rfl (by rw [Tryd.ntmps37]; simp) (fun hm => ?_)
  simp only [Tryd.ntmps37, Tryd.results37, List.length_cons, List.length_nil, Nat.reduceAdd, Nat.reduceSub, List.replicate_succ, List.replicate_zero, List.cons_append, List.nil_append]
  simp only [bObs, enumO, Nat.reduceAdd]
  refine AWp_seqK fun Y0 y0 => ?_
  refine AWp_region ?_
  refine aops_chunk 1 fun Q0 q0 => ?_
  simp only [↓bO, go_sem, seval, strRows_len, strRows_app, ByteArray.size_append]
  refine q0 _ ?_
  clear q0 Q0
  simp only [go_sem]
  simp only [↓bO, go_sem, seval, strRows_len, strRows_app, ByteArray.size_append]
  refine y0 _ ?_
  try clear y0 Y0
  refine AWp_seqK fun Y0 y0 => ?_
  refine AWp_region ?_
  refine aops_chunk 1 fun Q0 q0 => ?_
  simp only [↓bO, go_sem, seval, strRows_len, strRows_app, ByteArray.size_append]
  refine q0 _ ?_
  clear q0 Q0
  simp only [go_sem]
  simp only [↓bO, go_sem, seval, strRows_len, strRows_app, ByteArray.size_append]
  refine ACalls.mono (copyCheck1 bs) ?_
  rintro z os2 nx2 ⟨⟨rfl, rfl⟩, rfl⟩
  simp only [bObs, enumO, Nat.reduceAdd]
  try simp only [bS, bA, thenQ, blockQ, noGotoQ]
  refine y0 _ ?_
  try clear y0 Y0
  refine AWp_seqK fun Y0 y0 => ?_
  refine AWp_midK 6 [_] [_, _, _] rfl fun Q0 q0 => ?_
  iterate 5 (simp only [go_sem]; refine aops_chunk 1 fun Q0 q0 => ?_; simp only [↓bO, go_sem, seval, strRows_len, strRows_app, ByteArray.size_append]; refine q0 _ ?_; clear q0 Q0)
  simp only [go_sem]
  simp only [↓bO, go_sem, seval, strRows_len, strRows_app, ByteArray.size_append]
  refine q0 _ ?_
  clear q0 Q0
  refine MidAt_appendStr (id := 1) rfl rfl rfl (strRows_len _).symm ei50 (by kernel_rfl) h0 (by rw [strRows_len]; omega) (by rw [strRows_len]; simp only [maxLen]; omega) ?_
  simp only [putO, bS, bA, strRows_len, strRows_app, ByteArray.size_append]
  iterate 2 (refine aops_chunk 1 fun Q0 q0 => ?_; simp only [↓bO, go_sem, seval, strRows_len, strRows_app, ByteArray.size_append]; refine q0 _ ?_; clear q0 Q0; simp only [go_sem])
  simp only [↓bO, go_sem, seval, strRows_len, strRows_app, ByteArray.size_append]
  refine y0 _ ?_
  try clear y0 Y0
  refine AWp_seqK fun Y0 y0 => ?_
  refine AWp_region ?_
  iterate 3 (refine aops_chunk 1 fun Q0 q0 => ?_; simp only [↓bO, go_sem, seval, strRows_len, strRows_app, ByteArray.size_append]; refine q0 _ ?_; clear q0 Q0; simp only [go_sem])
  simp only [↓bO, go_sem, seval, strRows_len, strRows_app, ByteArray.size_append]
  refine y0 _ ?_
  try clear y0 Y0
  refine AWp_ret ?_
  try simp only [thenQ, blockQ, noGotoQ, retQ, aRes, tupOf, bS, bA]
  refine ⟨_, [(0, .cells 75 [.ptr 0 0, .own 1 (bs ++ s).size]), (1, .row 5 1 (strRows (bs ++ s)))], ⟨rfl, by first | rfl | simp only [ByteArray.size_append]⟩, .data (.tup (.cons (.v _) (.cons (.v _) .nil))), ⟨by omega, ⟨.ptr (by omega), .own (by omega), trivial⟩, by omega, strRows_und _, trivial⟩, Le.refl _, ⟨0, by (rw [ByteArray.size_append]; rfl), rfl⟩, by omega⟩
theorem String_c (q : AV) (bs : ByteArray) (h0 : 0 < bs.size) : ACalls Tryd.prog 39 [.ptr 0 0] (enumO 0 (bObs q bs)) 2 fun r os n => (r = .v (.string bs) ∧ os = []) ∧ n = 2 := by
  refine ACalls.clean (C := fun r os' => r = _ ∧ os' = _) ?_
  refine ACalls_intro Tryd.func39 (by kernel_rfl) rfl (by rw [Tryd.ntmps39]; simp) (fun hm => ?_)
  simp only [Tryd.ntmps39, Tryd.results39, List.length_cons, List.length_nil, Nat.reduceAdd, Nat.reduceSub, List.replicate_succ, List.replicate_zero, List.cons_append, List.nil_append]
  simp only [bObs, enumO, Nat.reduceAdd]
  refine AWp_seqK fun Y0 y0 => ?_
  refine AWp_region ?_
  simp only [↓bO, go_sem, seval, strRows_len, delO, List.filter_cons, List.filter_nil, Nat.reduceBEq]
  refine y0 _ ?_
  try clear y0 Y0
  refine AWp_seqK fun Y0 y0 => ?_
  refine AAny_start [(0, 1, [.own 1 bs.size])] 12 rfl mixed (⟨⟨_, _, rfl, by simp, rfl, (strRows_len _).symm, trivial⟩, trivial⟩) rfl ?_
  dsimp only
  refine AAny_takeK 0 rfl (by kernel_rfl) (by kernel_rfl) (by kernel_rfl) (fun _ _ h => h) fun Q0 q0 => ?_
  simp only [↓bO, go_sem, seval, strRows_len, delO, List.filter_cons, List.filter_nil, Nat.reduceBEq]
  refine q0 _ ?_
  clear q0 Q0
  refine AAny_takeK 1 rfl (by kernel_rfl) (by kernel_rfl) (by kernel_rfl) (fun _ _ h => h) fun Q0 q0 => ?_
  simp only [↓bO, go_sem, seval, strRows_len, delO, List.filter_cons, List.filter_nil, Nat.reduceBEq]
  refine q0 _ ?_
  clear q0 Q0
  refine AAny_takeK 2 rfl (by kernel_rfl) (by kernel_rfl) (by kernel_rfl) (fun _ _ h => h) fun Q0 q0 => ?_
  simp only [↓bO, go_sem, seval, strRows_len, delO, List.filter_cons, List.filter_nil, Nat.reduceBEq]
  refine q0 _ ?_
  clear q0 Q0
  refine AAny_loadK 3 0 rfl rfl (by kernel_rfl) (by kernel_rfl) (by kernel_rfl) (fun _ _ h => h) fun Q0 q0 => ?_
  simp only [↓bO, go_sem, seval, strRows_len, delO, List.filter_cons, List.filter_nil, Nat.reduceBEq]
  refine q0 _ ?_
  clear q0 Q0
  refine AAny_dataOwn (id := 1) 4 rfl (by kernel_rfl) (by kernel_rfl) (by kernel_rfl) (fun _ _ h => h) rfl rfl (strRows_len _).symm h0 ?_
  simp only [bS, bA, putO, strRows_len, delO, List.filter_cons, List.filter_nil, Nat.reduceBEq]
  refine AAny_takeK 5 rfl (by kernel_rfl) (by kernel_rfl) (by kernel_rfl) (fun _ _ h => h) fun Q0 q0 => ?_
  simp only [↓bO, go_sem, seval, strRows_len, delO, List.filter_cons, List.filter_nil, Nat.reduceBEq]
  refine q0 _ ?_
  clear q0 Q0
  refine AAny_takeK 6 rfl (by kernel_rfl) (by kernel_rfl) (by kernel_rfl) (fun _ _ h => h) fun Q0 q0 => ?_
  simp only [↓bO, go_sem, seval, strRows_len, delO, List.filter_cons, List.filter_nil, Nat.reduceBEq]
  refine q0 _ ?_
  clear q0 Q0
  refine AAny_takeK 7 rfl (by kernel_rfl) (by kernel_rfl) (by kernel_rfl) (fun _ _ h => h) fun Q0 q0 => ?_
  simp only [↓bO, go_sem, seval, strRows_len, delO, List.filter_cons, List.filter_nil, Nat.reduceBEq]
  refine q0 _ ?_
  clear q0 Q0
  refine AAny_loadK 8 0 rfl rfl (by kernel_rfl) (by kernel_rfl) (by kernel_rfl) (fun _ _ h => h) fun Q0 q0 => ?_
  simp only [↓bO, go_sem, seval, strRows_len, delO, List.filter_cons, List.filter_nil, Nat.reduceBEq]
  refine q0 _ ?_
  clear q0 Q0
  refine AAny_lenOwn (id := 1) 9 rfl (by kernel_rfl) (by kernel_rfl) (by kernel_rfl) (fun _ _ h => h) rfl rfl (strRows_len _).symm (by kernel_rfl) ?_
  simp only [bS, bA, putO, strRows_len, delO, List.filter_cons, List.filter_nil, Nat.reduceBEq]
  refine AAny_str (i := 10) (id := 1) (by kernel_rfl) rfl rfl rfl rfl rfl h0 (by kernel_rfl) (by kernel_rfl) ?_
  simp only [bS, bA, putO, strRows_len, delO, List.filter_cons, List.filter_nil, Nat.reduceBEq]
  refine AAny_takeK 11 rfl (by kernel_rfl) (by kernel_rfl) (by kernel_rfl) (fun _ _ h => h) fun Q0 q0 => ?_
  simp only [↓bO, go_sem, seval, strRows_len, delO, List.filter_cons, List.filter_nil, Nat.reduceBEq]
  refine q0 _ ?_
  clear q0 Q0
  refine AAny_done (by kernel_rfl) ?_
  simp only [thenQ, blockQ, noGotoQ]
  refine y0 _ ?_
  try clear y0 Y0
  refine AWp_weak Weak.noOs ?_
  refine AWp_ret ?_
  try simp only [thenQ, blockQ, noGotoQ, retQ, aRes, tupOf, bS, bA]
  refine ⟨_, [], ⟨rfl, rfl⟩, .v _ _, trivial, Le.refl _, ⟨0, rfl, rfl⟩, by omega⟩
theorem ACalls.eats2 {P : Program} {f : Nat} {args args' : List AV} {R : AV} {ob0 ob1 ob0' ob1' : Ob} {a b nx' : Nat} {os' : Os} {Q' : AV → Os → Nat → Prop}
    (h : ACalls P f args [(0, ob0), (1, ob1)] 2 fun r os n => (r = R ∧ os = []) ∧ n = 2) (hab : a ≠ b) (ha : a < nx') (hb : b < nx') (hargs : RenL (renOf [a, b] nx') args args') (hR : Data R) (hga : getO os' a = some ob0') (hgb : getO os' b = some ob1')
    (ho0 : RenO (renOf [a, b] nx') 0 ob0 ob0') (ho1 : RenO (renOf [a, b] nx') 1 ob1 ob1') (hq : Q' R (delO (delO os' b) a) nx') : ACalls P f args' os' nx' Q' := by
  refine h.frame (renOf [a, b] nx') (renOf_inj (by simpa using hab) (by simp; omega)) (fun j hj => ?_) (fun j hj => by rw [renOf_ge (by simpa using hj)]; rfl) hargs (fun j x hx => ?_) ?_
  · have : j = 0 ∨ j = 1 := by omega
    rcases this with rfl | rfl
    · exact ha
    · exact hb
  · simp only [getO] at hx
    split at hx
    · rename_i e; cases hx; subst e
      exact ⟨ob0', hga, ho0⟩
    · split at hx
      · rename_i e; cases hx; subst e
        exact ⟨ob1', hgb, ho1⟩
      · cases hx
  · rintro r os1 n1 ⟨⟨rfl, rfl⟩, rfl⟩
    refine ⟨r, delO (delO os' b) a, .data hR, by simpa using hq, fun id ob2 hgo => .inr ?_⟩
    rw [getO_delO, getO_delO] at hgo
    split at hgo
    · cases hgo
    · rename_i hne
      split at hgo
      · cases hgo
      · rename_i hne2
        refine ⟨hgo, ?_⟩
        rintro ⟨j, hj, hj1⟩
        have : j = 0 ∨ j = 1 := by omega
        rcases this with rfl | rfl
        · exact hne hj.symm
        · exact hne2 hj.symm
def bq (a : Nat) (z : Bool) : AV := if z then .ptr a 0 else .v (.pointer none)
theorem bq_ren {a b nx : Nat} (z : Bool) : RenV (renOf [a, b] nx) (bq 0 z) (bq a z) := by
  cases z
  · exact .v _
  · exact .ptr rfl
theorem WriteString_c (z : Bool) (bs s : ByteArray) (h0 : 0 < s.size) (hl : bs.size + s.size ≤ 1048576) : ACalls Tryd.prog 37 [.ptr 0 0, .v (.string s)] (enumO 0 (bObs (bq 0 z) bs)) 2 fun r os n => (r = .tup [.v (.int .i64 s.size), .v .nilIface] ∧ os = enumO 0 (bObs (bq 0 true) (bs ++ s))) ∧ n = 2 := by
  cases z
  · exact WriteString0 bs s h0 hl
  · exact WriteString1 bs s h0 hl
theorem WriteString_at {os' : Os} {nx' : Nat} {Q' : AV → Os → Nat → Prop} (a b : Nat) (z : Bool) (bs s : ByteArray) (h0 : 0 < s.size) (hl : bs.size + s.size ≤ 1048576) (hab : a ≠ b) (ha : getO os' a = some (.cells 75 [bq a z, .own b bs.size])) (hb : getO os' b = some (.row 5 1 (strRows bs))) (hn : a < nx' ∧ b < nx')
    (hq : Q' (.tup [.v (.int .i64 s.size), .v .nilIface]) (putO (putO os' a (.cells 75 [bq a true, .own b (bs ++ s).size])) b (.row 5 1 (strRows (bs ++ s)))) nx') : ACalls Tryd.prog 37 [.ptr a 0, .v (.string s)] os' nx' Q' := by
  refine ACalls.at (args := [.ptr 0 0, .v (.string s)]) (obs := bObs (bq 0 z) bs) (obs1 := bObs (bq 0 true) (bs ++ s)) (obs' := [.cells 75 [bq a z, .own b bs.size], .row 5 1 (strRows bs)]) (obs1' := [.cells 75 [bq a true, .own b (bs ++ s).size], .row 5 1 (strRows (bs ++ s))]) (R' := .tup [.v (.int .i64 s.size), .v .nilIface]) [a, b] ?_ rfl rfl (by simpa using hab) (by simp; omega) ⟨.ptr rfl, .v _, trivial⟩ (.data (.tup (.cons (.v _) (.cons (.v _) .nil)))) ⟨.cells ⟨bq_ren z, .own rfl, trivial⟩, .row (strRows_data _), trivial⟩ ⟨ha, hb, trivial⟩ ⟨.cells ⟨bq_ren true, .own rfl, trivial⟩, .row (strRows_data _), trivial⟩ hq
  exact (WriteString_c z bs s h0 hl).mono fun r os n ⟨⟨h1, h2⟩, h3⟩ => ⟨h1, h2, h3⟩
theorem String_at {os' : Os} {nx' : Nat} {Q' : AV → Os → Nat → Prop} (a b : Nat) (z : Bool) (bs : ByteArray) (h0 : 0 < bs.size) (hab : a ≠ b) (ha : getO os' a = some (.cells 75 [bq a z, .own b bs.size])) (hb : getO os' b = some (.row 5 1 (strRows bs))) (hn : a < nx' ∧ b < nx')
    (hq : Q' (.v (.string bs)) (delO (delO os' b) a) nx') : ACalls Tryd.prog 39 [.ptr a 0] os' nx' Q' :=
  ACalls.eats2 (String_c (bq 0 z) bs h0) hab hn.1 hn.2 ⟨.ptr rfl, trivial⟩ (.v _) ha hb (.cells ⟨bq_ren z, .own rfl, trivial⟩) (.row (strRows_data _)) hq
theorem strRows_snoc (bs : ByteArray) (c : UInt8) : strRows bs ++ [[.v (.int .u8 (c.toNat : Int))]] = strRows (bs ++ ⟨#[c]⟩) := by
  rw [← strRows_app]; rfl
theorem WriteByte0 (bs : ByteArray) (c : UInt8) (hl : bs.size + 1 ≤ 1048576) : ACalls Tryd.prog 38 [.ptr 0 0, .v (.int .u8 (c.toNat : Int))] (enumO 0 (bObs (.v (.pointer none)) bs)) 2 fun r os n => (r = .v .nilIface ∧ os = enumO 0 (bObs (.ptr 0 0) (bs ++ ⟨#[c]⟩))) ∧ n = 2 := by
  refine ACalls.clean (C := fun r os' => r = _ ∧ os' = _) ?_
  refine ACalls_intro Tryd.func38 (by kernel_rfl) rfl (by rw [Tryd.ntmps38]; simp) (fun hm => ?_)
  simp only [Tryd.ntmps38, Tryd.results38, List.length_cons, List.length_nil, Nat.reduceAdd, Nat.reduceSub, List.replicate_succ, List.replicate_zero, List.cons_append, List.nil_append]
  simp only [bObs, enumO, Nat.reduceAdd]
  have hb1 : (bs.size + 1) * 1 ≤ 140737488355328 := by omega
  have hb2 : bs.size + 1 ≤ maxLen := by (simp only [maxLen]; omega)
  have hz1 : (bs ++ (⟨#[c]⟩ : ByteArray)).size = bs.size + 1 := ByteArray.size_append
  have hb3 : bs.size ≤ 140737488355327 := by omega
  refine AWp_seqK fun Y0 y0 => ?_
  refine AWp_region ?_
  simp only [↓bO, go_sem, seval, strRows_len, strRows_snoc, hb1, hb2, hb3]
  refine y0 _ ?_
  try clear y0 Y0
  refine AWp_seqK fun Y0 y0 => ?_
  refine AWp_region ?_
  refine aops_chunk 1 fun Q0 q0 => ?_
  simp only [↓bO, go_sem, seval, strRows_len, strRows_snoc, hb1, hb2, hb3]
  refine q0 _ ?_
  clear q0 Q0
  simp only [go_sem]
  simp only [↓bO, go_sem, seval, strRows_len, strRows_snoc, hb1, hb2, hb3]
  refine ACalls.mono (copyCheck0 bs) ?_
  rintro z os2 nx2 ⟨⟨rfl, rfl⟩, rfl⟩
  simp only [bObs, enumO, Nat.reduceAdd]
  try simp only [bS, bA, thenQ, blockQ, noGotoQ]
  refine y0 _ ?_
  try clear y0 Y0
  refine AWp_seqK fun Y0 y0 => ?_
  refine AWp_region ?_
  iterate 6 (refine aops_chunk 1 fun Q0 q0 => ?_; simp only [↓bO, go_sem, seval, strRows_len, strRows_snoc, hb1, hb2, hb3]; refine q0 _ ?_; clear q0 Q0; simp only [go_sem])
  refine aops_chunk 1 fun Q0 q0 => ?_
  simp only [↓bO, go_sem, seval, ↓bs1_1, ↓bs1_2, ↓bs1_3, ↓bs1_4, ↓bs1_5, ↓bs1_6, ↓bs1_7, ↓bs1_8, ↓bs1_9, ↓bs1_10, ↓bs1_11, ↓bs1_12, strRows_len, strRows_snoc, hb1, hb2, hb3]
  iterate 3 (refine q0 _ ?_; clear q0 Q0; simp only [go_sem]; refine aops_chunk 1 fun Q0 q0 => ?_; simp only [↓bO, go_sem, seval, strRows_len, strRows_snoc, hb1, hb2, hb3])
  refine q0 _ ?_
  clear q0 Q0
  simp only [go_sem]
  simp only [↓bO, go_sem, seval, strRows_len, strRows_snoc, hb1, hb2, hb3]
  refine y0 _ ?_
  try clear y0 Y0
  refine AWp_seqK fun Y0 y0 => ?_
  refine AWp_region ?_
  simp only [↓bO, go_sem, seval, strRows_len, strRows_snoc, hb1, hb2, hb3]
  refine y0 _ ?_
  try clear y0 Y0
  refine AWp_ret ?_
  try simp only [thenQ, blockQ, noGotoQ, retQ, aRes, tupOf, bS, bA]
  refine ⟨_, [(0, .cells 75 [.ptr 0 0, .own 1 (bs ++ (⟨#[c]⟩ : ByteArray)).size]), (1, .row 5 1 (strRows (bs ++ (⟨#[c]⟩ : ByteArray))))], ⟨rfl, rfl⟩, .v _ _, ⟨by omega, ⟨.ptr (by omega), .own (by omega), trivial⟩, by omega, strRows_und _, trivial⟩, Le.refl _, ?_, by omega⟩
  rw [hz1]
  first | exact ⟨0, rfl, rfl⟩ | exact ⟨1, rfl, rfl⟩ | exact ⟨2, rfl, rfl⟩
theorem WriteByte1 (bs : ByteArray) (c : UInt8) (hl : bs.size + 1 ≤ 1048576) : ACalls Tryd.prog 38 [.ptr 0 0, .v (.int .u8 (c.toNat : Int))] (enumO 0 (bObs (.ptr 0 0) bs)) 2 fun r os n => (r = .v .nilIface ∧ os = enumO 0 (bObs (.ptr 0 0) (bs ++ ⟨#[c]⟩))) ∧ n = 2 := by
  refine ACalls.clean (C := fun r os' => r = _ ∧ os' = _) ?_
  refine ACalls_intro Tryd.func38 (by kernel_rfl) rfl (by rw [Tryd.ntmps38]; simp) (fun hm => ?_)
  simp only [Tryd.ntmps38, Tryd.results38, List.length_cons, List.length_nil, Nat.reduceAdd, Nat.reduceSub, List.replicate_succ, List.replicate_zero, List.cons_append, List.nil_append]
  simp only [bObs, enumO, Nat.reduceAdd]
  have hb1 : (bs.size + 1) * 1 ≤ 140737488355328 := by omega
  have hb2 : bs.size + 1 ≤ maxLen := by (simp only [maxLen]; omega)
  have hz1 : (bs ++ (⟨#[c]⟩ : ByteArray)).size = bs.size + 1 := ByteArray.size_append
  have hb3 : bs.size ≤ 140737488355327 := by omega
  refine AWp_seqK fun Y0 y0 => ?_
  refine AWp_region ?_
  simp only [↓bO, go_sem, seval, strRows_len, strRows_snoc, hb1, hb2, hb3]
  refine y0 _ ?_
  try clear y0 Y0
  refine AWp_seqK fun Y0 y0 => ?_
  refine AWp_region ?_
  refine aops_chunk 1 fun Q0 q0 => ?_
  simp only [↓bO, go_sem, seval, strRows_len, strRows_snoc, hb1, hb2, hb3]
  refine q0 _ ?_
  clear q0 Q0
  simp only [go_sem]
  simp only [↓bO, go_sem, seval, strRows_len, strRows_snoc, hb1, hb2, hb3]
  refine ACalls.mono (copyCheck1 bs) ?_
  rintro z os2 nx2 ⟨⟨rfl, rfl⟩, rfl⟩
  simp only [bObs, enumO, Nat.reduceAdd]
  try simp only [bS, bA, thenQ, blockQ, noGotoQ]
  refine y0 _ ?_
  try clear y0 Y0
  refine AWp_seqK fun Y0 y0 => ?_
  refine AWp_region ?_
  iterate 6 (refine aops_chunk 1 fun Q0 q0 => ?_; simp only [↓bO, go_sem, seval, strRows_len, strRows_snoc, hb1, hb2, hb3]; refine q0 _ ?_; clear q0 Q0; simp only [go_sem])
  refine aops_chunk 1 fun Q0 q0 => ?_
  simp only [↓bO, go_sem, seval, ↓bs1_1, ↓bs1_2, ↓bs1_3, ↓bs1_4, ↓bs1_5, ↓bs1_6, ↓bs1_7, ↓bs1_8, ↓bs1_9, ↓bs1_10, ↓bs1_11, ↓bs1_12, strRows_len, strRows_snoc, hb1, hb2, hb3]
  iterate 3 (refine q0 _ ?_; clear q0 Q0; simp only [go_sem]; refine aops_chunk 1 fun Q0 q0 => ?_; simp only [↓bO, go_sem, seval, strRows_len, strRows_snoc, hb1, hb2, hb3])
  refine q0 _ ?_
  clear q0 Q0
  simp only [go_sem]
  simp only [↓bO, go_sem, seval, strRows_len, strRows_snoc, hb1, hb2, hb3]
  refine y0 _ ?_
  try clear y0 Y0
  refine AWp_seqK fun Y0 y0 => ?_
  refine AWp_region ?_
  simp only [↓bO, go_sem, seval, strRows_len, strRows_snoc, hb1, hb2, hb3]
  refine y0 _ ?_
  try clear y0 Y0
  refine AWp_ret ?_
  try simp only [thenQ, blockQ, noGotoQ, retQ, aRes, tupOf, bS, bA]
  refine ⟨_, [(0, .cells 75 [.ptr 0 0, .own 1 (bs ++ (⟨#[c]⟩ : ByteArray)).size]), (1, .row 5 1 (strRows (bs ++ (⟨#[c]⟩ : ByteArray))))], ⟨rfl, rfl⟩, .v _ _, ⟨by omega, ⟨.ptr (by omega), .own (by omega), trivial⟩, by omega, strRows_und _, trivial⟩, Le.refl _, ?_, by omega⟩
  rw [hz1]
  first | exact ⟨0, rfl, rfl⟩ | exact ⟨1, rfl, rfl⟩ | exact ⟨2, rfl, rfl⟩
theorem WriteByte_c (z : Bool) (bs : ByteArray) (c : UInt8) (hl : bs.size + 1 ≤ 1048576) : ACalls Tryd.prog 38 [.ptr 0 0, .v (.int .u8 (c.toNat : Int))] (enumO 0 (bObs (bq 0 z) bs)) 2 fun r os n => (r = .v .nilIface ∧ os = enumO 0 (bObs (bq 0 true) (bs ++ (⟨#[c]⟩ : ByteArray)))) ∧ n = 2 := by
  cases z
  · exact WriteByte0 bs c hl
  · exact WriteByte1 bs c hl
theorem WriteByte_at {os' : Os} {nx' : Nat} {Q' : AV → Os → Nat → Prop} (a b : Nat) (z : Bool) (bs : ByteArray) (c : UInt8) (hl : bs.size + 1 ≤ 1048576) (hab : a ≠ b) (ha : getO os' a = some (.cells 75 [bq a z, .own b bs.size])) (hb : getO os' b = some (.row 5 1 (strRows bs))) (hn : a < nx' ∧ b < nx')
    (hq : Q' (.v .nilIface) (putO (putO os' a (.cells 75 [bq a true, .own b (bs ++ (⟨#[c]⟩ : ByteArray)).size])) b (.row 5 1 (strRows (bs ++ (⟨#[c]⟩ : ByteArray))))) nx') : ACalls Tryd.prog 38 [.ptr a 0, .v (.int .u8 (c.toNat : Int))] os' nx' Q' := by
  refine ACalls.at (args := [.ptr 0 0, .v (.int .u8 (c.toNat : Int))]) (obs := bObs (bq 0 z) bs) (obs1 := bObs (bq 0 true) (bs ++ (⟨#[c]⟩ : ByteArray))) (obs' := [.cells 75 [bq a z, .own b bs.size], .row 5 1 (strRows bs)]) (obs1' := [.cells 75 [bq a true, .own b (bs ++ (⟨#[c]⟩ : ByteArray)).size], .row 5 1 (strRows (bs ++ (⟨#[c]⟩ : ByteArray)))]) (R' := .v .nilIface) [a, b] ?_ rfl rfl (by simpa using hab) (by simp; omega) ⟨.ptr rfl, .v _, trivial⟩ (.v _) ⟨.cells ⟨bq_ren z, .own rfl, trivial⟩, .row (strRows_data _), trivial⟩ ⟨ha, hb, trivial⟩ ⟨.cells ⟨bq_ren true, .own rfl, trivial⟩, .row (strRows_data _), trivial⟩ hq
  exact (WriteByte_c z bs c hl).mono fun r os n ⟨⟨h1, h2⟩, h3⟩ => ⟨h1, h2, h3⟩
theorem String_nil : ACalls Tryd.prog 39 [.ptr 0 0] [(0, .cells 75 [.v (.pointer none), .v (.slice none 0 0)])] 1 fun r os n => (r = .v (.string ByteArray.empty) ∧ os = [(0, .cells 75 [.v (.pointer none), .v (.slice none 0 0)])]) ∧ n = 1 := by
  refine ACalls.clean (C := fun r os' => r = _ ∧ os' = _) ?_
  refine ACalls_intro Tryd.func39 (by kernel_rfl) rfl (by rw [Tryd.ntmps39]; simp) (fun hm => ?_)
  simp only [Tryd.ntmps39, Tryd.results39, List.length_cons, List.length_nil, Nat.reduceAdd, Nat.reduceSub, List.replicate_succ, List.replicate_zero, List.cons_append, List.nil_append]
  refine AWp_seqK fun Y0 y0 => ?_
  refine AWp_region ?_
  simp only [↓bO, go_sem, seval, Int.natCast_zero, Int.ofNat_zero]
  refine y0 _ ?_
  try clear y0 Y0
  refine AWp_seqK fun Y0 y0 => ?_
  refine AAny_start [] 12 rfl mixed (trivial) rfl ?_
  dsimp only
  refine AAny_takeK 0 rfl (by kernel_rfl) (by kernel_rfl) (by kernel_rfl) (fun _ _ h => h) fun Q0 q0 => ?_
  simp only [↓bO, go_sem, seval, Int.natCast_zero, Int.ofNat_zero]
  refine q0 _ ?_
  clear q0 Q0
  refine AAny_takeK 1 rfl (by kernel_rfl) (by kernel_rfl) (by kernel_rfl) (fun _ _ h => h) fun Q0 q0 => ?_
  simp only [↓bO, go_sem, seval, Int.natCast_zero, Int.ofNat_zero]
  refine q0 _ ?_
  clear q0 Q0
  refine AAny_takeK 2 rfl (by kernel_rfl) (by kernel_rfl) (by kernel_rfl) (fun _ _ h => h) fun Q0 q0 => ?_
  simp only [↓bO, go_sem, seval, Int.natCast_zero, Int.ofNat_zero]
  refine q0 _ ?_
  clear q0 Q0
  refine AAny_takeK 5 rfl (by kernel_rfl) (by kernel_rfl) (by kernel_rfl) (fun _ _ h => h) fun Q0 q0 => ?_
  simp only [↓bO, go_sem, seval, Int.natCast_zero, Int.ofNat_zero]
  refine q0 _ ?_
  clear q0 Q0
  refine AAny_takeK 6 rfl (by kernel_rfl) (by kernel_rfl) (by kernel_rfl) (fun _ _ h => h) fun Q0 q0 => ?_
  simp only [↓bO, go_sem, seval, Int.natCast_zero, Int.ofNat_zero]
  refine q0 _ ?_
  clear q0 Q0
  refine AAny_takeK 7 rfl (by kernel_rfl) (by kernel_rfl) (by kernel_rfl) (fun _ _ h => h) fun Q0 q0 => ?_
  simp only [↓bO, go_sem, seval, Int.natCast_zero, Int.ofNat_zero]
  refine q0 _ ?_
  clear q0 Q0
  refine AAny_all2 (i := 3) (j := 8) (by kernel_rfl) ?_ ?_
  ·
   refine aAt_op rfl rfl fun Q0 q0 => ?_
   simp only [↓bO, go_sem, seval, Int.natCast_zero, Int.ofNat_zero]
   refine q0 _ ⟨trivial, ?_⟩
   clear q0 Q0
   refine AAny_dataNil 4 rfl (by kernel_rfl) (by kernel_rfl) (by kernel_rfl) (fun _ _ h => h) rfl ?_
   simp only [bS, bA, putO, Int.natCast_zero, Int.ofNat_zero]
   refine AAny_all1 (i := 8) (by kernel_rfl) ?_
   ·
    refine aAt_op rfl rfl fun Q0 q0 => ?_
    simp only [↓bO, go_sem, seval, Int.natCast_zero, Int.ofNat_zero]
    refine q0 _ ⟨trivial, ?_⟩
    clear q0 Q0
    refine AAny_all1 (i := 9) (by kernel_rfl) ?_
    ·
     refine aAt_op rfl rfl fun Q0 q0 => ?_
     simp only [↓bO, go_sem, seval, Int.natCast_zero, Int.ofNat_zero]
     refine q0 _ ⟨trivial, ?_⟩
     clear q0 Q0
     refine AAny_strNone 10 rfl (by kernel_rfl) (by kernel_rfl) (by kernel_rfl) (fun _ _ h => h) rfl rfl ?_
     simp only [bS, bA, putO, Int.natCast_zero, Int.ofNat_zero]
     refine AAny_takeK 11 rfl (by kernel_rfl) (by kernel_rfl) (by kernel_rfl) (fun _ _ h => h) fun Q0 q0 => ?_
     simp only [↓bO, go_sem, seval, Int.natCast_zero, Int.ofNat_zero]
     refine q0 _ ?_
     clear q0 Q0
     refine AAny_done (by kernel_rfl) ?_
     simp only [thenQ, blockQ, noGotoQ]
     refine y0 _ ?_
     try clear y0 Y0
     refine AWp_ret ?_
     try simp only [thenQ, blockQ, noGotoQ, retQ, aRes, tupOf, bS, bA]
     refine ⟨_, _, ⟨rfl, rfl⟩, .v _ _, ⟨by omega, ⟨.v _ _, .v _ _, trivial⟩, trivial⟩, Le.refl _, ⟨0, rfl, rfl⟩, by omega⟩
  ·
   refine aAt_op rfl rfl fun Q0 q0 => ?_
   simp only [↓bO, go_sem, seval, Int.natCast_zero, Int.ofNat_zero]
   refine q0 _ ⟨trivial, ?_⟩
   clear q0 Q0
   refine AAny_all2 (i := 3) (j := 9) (by kernel_rfl) ?_ ?_
   ·
    refine aAt_op rfl rfl fun Q0 q0 => ?_
    simp only [↓bO, go_sem, seval, Int.natCast_zero, Int.ofNat_zero]
    refine q0 _ ⟨trivial, ?_⟩
    clear q0 Q0
    refine AAny_dataNil 4 rfl (by kernel_rfl) (by kernel_rfl) (by kernel_rfl) (fun _ _ h => h) rfl ?_
    simp only [bS, bA, putO, Int.natCast_zero, Int.ofNat_zero]
    refine AAny_all1 (i := 9) (by kernel_rfl) ?_
    ·
     refine aAt_op rfl rfl fun Q0 q0 => ?_
     simp only [↓bO, go_sem, seval, Int.natCast_zero, Int.ofNat_zero]
     refine q0 _ ⟨trivial, ?_⟩
     clear q0 Q0
     refine AAny_strNone 10 rfl (by kernel_rfl) (by kernel_rfl) (by kernel_rfl) (fun _ _ h => h) rfl rfl ?_
     simp only [bS, bA, putO, Int.natCast_zero, Int.ofNat_zero]
     refine AAny_takeK 11 rfl (by kernel_rfl) (by kernel_rfl) (by kernel_rfl) (fun _ _ h => h) fun Q0 q0 => ?_
     simp only [↓bO, go_sem, seval, Int.natCast_zero, Int.ofNat_zero]
     refine q0 _ ?_
     clear q0 Q0
     refine AAny_done (by kernel_rfl) ?_
     simp only [thenQ, blockQ, noGotoQ]
     refine y0 _ ?_
     try clear y0 Y0
     refine AWp_ret ?_
     try simp only [thenQ, blockQ, noGotoQ, retQ, aRes, tupOf, bS, bA]
     refine ⟨_, _, ⟨rfl, rfl⟩, .v _ _, ⟨by omega, ⟨.v _ _, .v _ _, trivial⟩, trivial⟩, Le.refl _, ⟨0, rfl, rfl⟩, by omega⟩
   ·
    refine aAt_op rfl rfl fun Q0 q0 => ?_
    simp only [↓bO, go_sem, seval, Int.natCast_zero, Int.ofNat_zero]
    refine q0 _ ⟨trivial, ?_⟩
    clear q0 Q0
    refine AAny_all1 (i := 3) (by kernel_rfl) ?_
    ·
     refine aAt_op rfl rfl fun Q0 q0 => ?_
     simp only [↓bO, go_sem, seval, Int.natCast_zero, Int.ofNat_zero]
     refine q0 _ ⟨trivial, ?_⟩
     clear q0 Q0
     refine AAny_dataNil 4 rfl (by kernel_rfl) (by kernel_rfl) (by kernel_rfl) (fun _ _ h => h) rfl ?_
     simp only [bS, bA, putO, Int.natCast_zero, Int.ofNat_zero]
     refine AAny_strNone 10 rfl (by kernel_rfl) (by kernel_rfl) (by kernel_rfl) (fun _ _ h => h) rfl rfl ?_
     simp only [bS, bA, putO, Int.natCast_zero, Int.ofNat_zero]
     refine AAny_takeK 11 rfl (by kernel_rfl) (by kernel_rfl) (by kernel_rfl) (fun _ _ h => h) fun Q0 q0 => ?_
     simp only [↓bO, go_sem, seval, Int.natCast_zero, Int.ofNat_zero]
     refine q0 _ ?_
     clear q0 Q0
     refine AAny_done (by kernel_rfl) ?_
     simp only [thenQ, blockQ, noGotoQ]
     refine y0 _ ?_
     try clear y0 Y0
     refine AWp_ret ?_
     try simp only [thenQ, blockQ, noGotoQ, retQ, aRes, tupOf, bS, bA]
     refine ⟨_, _, ⟨rfl, rfl⟩, .v _ _, ⟨by omega, ⟨.v _ _, .v _ _, trivial⟩, trivial⟩, Le.refl _, ⟨0, rfl, rfl⟩, by omega⟩
theorem StringNil_at {os' : Os} {nx' : Nat} {Q' : AV → Os → Nat → Prop} (a : Nat) (ha : getO os' a = some (.cells 75 [.v (.pointer none), .v (.slice none 0 0)])) (hn : a < nx') (hq : Q' (.v (.string ByteArray.empty)) (putO os' a (.cells 75 [.v (.pointer none), .v (.slice none 0 0)])) nx') : ACalls Tryd.prog 39 [.ptr a 0] os' nx' Q' := by
  refine ACalls.at (args := [.ptr 0 0]) (obs := [.cells 75 [.v (.pointer none), .v (.slice none 0 0)]]) (obs1 := [.cells 75 [.v (.pointer none), .v (.slice none 0 0)]]) (obs' := [.cells 75 [.v (.pointer none), .v (.slice none 0 0)]]) (obs1' := [.cells 75 [.v (.pointer none), .v (.slice none 0 0)]]) (R' := .v (.string ByteArray.empty)) [a] ?_ rfl rfl (by simp) (by simpa using hn) ⟨.ptr rfl, trivial⟩ (.v _) ⟨.cells ⟨.v _, .v _, trivial⟩, trivial⟩ ⟨ha, trivial⟩ ⟨.cells ⟨.v _, .v _, trivial⟩, trivial⟩ hq
  exact String_nil.mono fun r os n ⟨⟨h1, h2⟩, h3⟩ => ⟨h1, h2, h3⟩
def catL (l : List ActT) : ByteArray := l.foldl (fun b a => (b ++ a.text') ++ ⟨#[10]⟩) ByteArray.empty
theorem catL_snoc (l : List ActT) (a : ActT) : catL (l ++ [a]) = (catL l ++ a.text') ++ ⟨#[10]⟩ := by
  unfold catL; rw [List.foldl_append]; rfl
theorem catL_step {l : List ActT} {k : Nat} {a : ActT} (h : l[k]? = some a) : catL (l.take (k + 1)) = (catL (l.take k) ++ a.text') ++ ⟨#[10]⟩ := by
  rw [List.take_add_one, h]; exact catL_snoc _ _
def badAt : List ActT → Option (Nat × Int)
  | [] => none
  | a :: r => if a.err = 0 then (badAt r).map fun p => (p.1 + 1, p.2) else some (0, a.err)
def okTo (l : List ActT) (k : Nat) : Prop := ∀ j a, j < k → l[j]? = some a → a.err = 0
theorem okTo.zero (l : List ActT) : okTo l 0 := fun j a h => absurd h (Nat.not_lt_zero _)
theorem okTo.step {l : List ActT} {k : Nat} {a : ActT} (h : okTo l k) (ha : l[k]? = some a) (h0 : a.err = 0) : okTo l (k + 1) := fun j b hj hb => by
  rcases Nat.lt_or_ge j k with h1 | h1
  · exact h j b h1 hb
  · obtain rfl : j = k := by omega
    rw [ha] at hb; cases hb; exact h0
theorem badAt_first : ∀ {l : List ActT} {i : Nat} {a : ActT}, okTo l i → l[i]? = some a → a.err ≠ 0 → badAt l = some (i, a.err)
  | x :: r, 0, a, _, h, h0 => by cases h; unfold badAt; rw [if_neg h0]
  | x :: r, i + 1, a, hk, h, h0 => by
    unfold badAt
    rw [if_pos (hk 0 x (Nat.succ_pos i) rfl), badAt_first (l := r) (i := i) (fun j b hj hb => hk (j + 1) b (by omega) (by simpa using hb)) (by simpa using h) h0]; rfl
theorem badAt_none : ∀ {l : List ActT}, okTo l l.length → badAt l = none
  | [], _ => rfl
  | x :: r, hk => by
    unfold badAt
    rw [if_pos (hk 0 x (by simp) rfl), badAt_none (l := r) fun j b hj hb => hk (j + 1) b (by simp; omega) (by simpa using hb)]; rfl
def wrT (l : List ActT) : ByteArray := if 200 < l.length then ByteArray.empty else if (badAt l).isSome then ByteArray.empty else catL l
def wrN (l : List ActT) : Int := if 200 < l.length then 0 else match badAt l with | some p => (p.1 : Int) | none => 0
def wrE (l : List ActT) : Int := if 200 < l.length then 2 else match badAt l with | some p => p.2 | none => 0
def wrA (l : List ActT) : AV := .tup [.v (.string (wrT l)), .v (.int .i64 (wrN l)), .v (.int .i64 (wrE l))]
theorem wrA_data (l : List ActT) : Data (wrA l) := .tup (.cons (.v _) (.cons (.v _) (.cons (.v _) .nil)))
theorem wrA_long {l : List ActT} (h : 200 < l.length) : wrA l = .tup [.v (.string ByteArray.empty), .v (.int .i64 0), .v (.int .i64 2)] := by
  unfold wrA wrT wrN wrE; rw [if_pos h, if_pos h, if_pos h]
theorem wrA_bad {l : List ActT} (h : ¬ 200 < l.length) {i : Nat} {e : Int} (hb : badAt l = some (i, e)) : wrA l = .tup [.v (.string ByteArray.empty), .v (.int .i64 (i : Int)), .v (.int .i64 e)] := by
  unfold wrA wrT wrN wrE; rw [if_neg h, if_neg h, if_neg h, hb]; rfl
theorem wrA_ok {l : List ActT} (h : ¬ 200 < l.length) (hb : badAt l = none) : wrA l = .tup [.v (.string (catL l)), .v (.int .i64 0), .v (.int .i64 0)] := by
  unfold wrA wrT wrN wrE; rw [if_neg h, if_neg h, if_neg h, hb]; rfl
theorem text_pos {a : ActT} (h0 : a.err = 0) : 0 < a.text'.size := by
  have hk := (ActT.ok_of h0).1
  have z : ∀ (x y : ByteArray), 0 < x.size → 0 < (x ++ y).size := fun x y h => by rw [size_add]; omega
  rcases kinds hk with h | h | h | h | h | h | h
  · rw [← rl1 h]; exact z _ _ (z _ _ (z _ _ (by decide)))
  · rw [← rl2 h]; exact z _ _ (z _ _ (z _ _ (z _ _ (z _ _ (z _ _ (z _ _ (by decide)))))))
  · rw [← rl3 h]; exact z _ _ (by decide)
  · rw [← rl4 h]; exact z _ _ (by decide)
  · rw [← rl5 h]; exact z _ _ (z _ _ (z _ _ (by decide)))
  · rw [← rl6 h]; exact z _ _ (z _ _ (z _ _ (z _ _ (z _ _ (by decide)))))
  · rw [← rl7 h]; decide
theorem catL_pos {l : List ActT} (h : l ≠ []) : 0 < (catL l).size := by
  rw [← List.dropLast_concat_getLast h, catL_snoc, size_add]
  have : (⟨#[10]⟩ : ByteArray).size = 1 := rfl
  omega
def ActsIn (l : List ActT) : Prop := (∀ a ∈ l, a.fits ∧ a.name.size ≤ 9223372036854775807 ∧ a.text.size ≤ 9223372036854775807) ∧ ∀ k, k ≤ l.length → okTo l k → (catL (l.take k)).size ≤ 1000000
theorem Write_nil : APure Tryd.prog 20 [.sl 9 ([].map ActT.cells)] (wrA []) := by
  refine APure.mkL (.cons (dataActs []) .nil) ((wrA_data [])) ?_
  refine ACalls_intro Tryd.func20 (by kernel_rfl) rfl (by rw [Tryd.ntmps20]; simp) (fun hm => ?_)
  simp only [Tryd.ntmps20, Tryd.results20, List.length_cons, List.length_nil, Nat.reduceAdd, Nat.reduceSub, List.replicate_succ, List.replicate_zero, List.cons_append, List.nil_append]
  have hm0 := hm
  simp only [List.map_nil]
  refine AWp_seqK fun Y0 y0 => ?_
  refine AWp_region ?_
  iterate 2 (refine aops_chunk 1 fun Q0 q0 => ?_; simp only [↓bO, go_sem, seval, ActT.cells, lineA, Int.natCast_zero, Int.ofNat_zero]; refine q0 _ ?_; clear q0 Q0; simp only [go_sem])
  simp only [↓bO, go_sem, seval, ActT.cells, lineA, Int.natCast_zero, Int.ofNat_zero]
  refine y0 _ ?_
  try clear y0 Y0
  refine AWp_seqK fun Y0 y0 => ?_
  refine AWp_seqK fun Y1 y1 => ?_
  refine AWp_region ?_
  iterate 2 (refine aops_chunk 1 fun Q0 q0 => ?_; simp only [↓bO, go_sem, seval, ActT.cells, lineA, Int.natCast_zero, Int.ofNat_zero]; refine q0 _ ?_; clear q0 Q0; simp only [go_sem])
  simp only [↓bO, go_sem, seval, ActT.cells, lineA, Int.natCast_zero, Int.ofNat_zero]
  refine y1 _ ?_
  try clear y1 Y1
  refine AWp_cond rfl (fun hb12 => ?_) (fun hb12 => ?_)
  ·
   exact absurd hb12 (by decide)
  ·
   refine AWp_skip ?_
   try simp only [thenQ, blockQ, noGotoQ]
   refine y0 _ ?_
   try clear y0 Y0
   refine AWp_seqK fun Y0 y0 => ?_
   refine AWp_region ?_
   simp only [↓bO, go_sem, seval, ActT.cells, lineA, Int.natCast_zero, Int.ofNat_zero]
   refine y0 _ ?_
   try clear y0 Y0
   refine AWp_seqK fun Y0 y0 => ?_
   refine AWp_seqK fun Y1 y1 => ?_
   refine AWp_region ?_
   iterate 2 (refine aops_chunk 1 fun Q0 q0 => ?_; simp only [↓bO, go_sem, seval, ActT.cells, lineA, Int.natCast_zero, Int.ofNat_zero]; refine q0 _ ?_; clear q0 Q0; simp only [go_sem])
   simp only [↓bO, go_sem, seval, ActT.cells, lineA, Int.natCast_zero, Int.ofNat_zero]
   refine y1 _ ?_
   try clear y1 Y1
   refine AWp_block ?_
   refine AWp_loopM (σ := Nat) (mB 34 57376) (fun k => k = 0) (fun k => [(15, .v (.int .i64 0))]) (fun k => []) (fun k => 0) 0 (rfl) ?_ (fun k hk => ?_)
   ·
    try simp only [maskL, setsL, putsO, putO, mB, List.set_cons_zero, List.set_cons_succ, seval]
    exact Weak.mk (by simp only [go_sem, Le.refl, Le.any, Le.slNil, Int.natCast_add, Int.cast_ofNat_Int, Int.natCast_one]) (fun _ _ h => h) rfl rfl
   simp only [maskL, setsL, putsO, putO, mB, List.set_cons_zero, List.set_cons_succ, seval]
   refine AWp_seqK fun Y1 y1 => ?_
   refine AWp_region ?_
   simp only [↓bO, go_sem, seval, ActT.cells, lineA, Int.natCast_zero, Int.ofNat_zero]
   refine y1 _ ?_
   try clear y1 Y1
   refine AWp_seqK fun Y1 y1 => ?_
   refine AWp_cond rfl (fun hb16 => ?_) (fun hb16 => ?_)
   ·
    exact absurd hb16 (by decide)
   ·
    refine AWp_exit ?_
    simp only [thenQ, blockQ, noGotoQ, bA, Nat.reduceEqDiff, ↓reduceIte]
    refine y0 _ ?_
    try clear y0 Y0
    refine AWp_seqK fun Y0 y0 => ?_
    refine AWp_region ?_
    refine aops_chunk 1 fun Q0 q0 => ?_
    simp only [↓bO, go_sem, seval, ActT.cells, lineA, Int.natCast_zero, Int.ofNat_zero]
    refine StringNil_at 0 rfl (by first | omega | (simp only; omega)) ?_
    simp only [putO, Nat.reduceEqDiff, ↓reduceIte]
    try simp only [bS, bA, thenQ, blockQ, noGotoQ]
    iterate 2 (refine q0 _ ?_; clear q0 Q0; simp only [go_sem]; refine aops_chunk 1 fun Q0 q0 => ?_; simp only [↓bO, go_sem, seval, ActT.cells, lineA, Int.natCast_zero, Int.ofNat_zero])
    refine q0 _ ?_
    clear q0 Q0
    simp only [go_sem]
    simp only [↓bO, go_sem, seval, ActT.cells, lineA, Int.natCast_zero, Int.ofNat_zero]
    refine y0 _ ?_
    try clear y0 Y0
    refine AWp_ret ?_
    try simp only [thenQ, blockQ, noGotoQ, retQ, aRes, tupOf, bS, bA]
    rw [wrA_ok (by decide) rfl]
    exact Le.refl _
theorem bq_undW {n : Nat} (z : Bool) : Und (n + 1) (bq 0 z) := by
  cases z
  · exact .v _ _
  · exact .ptr (by omega)
theorem Write_more (l : List ActT) (h : ActsIn l) (hne : l ≠ []) (hl63 : l.length ≤ 9223372036854775807) : APure Tryd.prog 20 [.sl 9 (l.map ActT.cells)] (wrA l) := by
  refine APure.mkL (.cons (dataActs l) .nil) ((wrA_data l)) ?_
  refine ACalls_intro Tryd.func20 (by kernel_rfl) rfl (by rw [Tryd.ntmps20]; simp) (fun hm => ?_)
  simp only [Tryd.ntmps20, Tryd.results20, List.length_cons, List.length_nil, Nat.reduceAdd, Nat.reduceSub, List.replicate_succ, List.replicate_zero, List.cons_append, List.nil_append]
  refine AWp_seqK fun Y0 y0 => ?_
  refine AWp_region ?_
  iterate 2 (refine aops_chunk 1 fun Q0 q0 => ?_; simp only [↓bO, go_sem, seval, ActT.cells, lineA]; refine q0 _ ?_; clear q0 Q0; simp only [go_sem])
  simp only [↓bO, go_sem, seval, ActT.cells, lineA]
  refine y0 _ ?_
  try clear y0 Y0
  refine AWp_seqK fun Y0 y0 => ?_
  refine AWp_seqK fun Y1 y1 => ?_
  refine AWp_region ?_
  iterate 2 (refine aops_chunk 1 fun Q0 q0 => ?_; simp only [↓bO, go_sem, seval, ActT.cells, lineA]; refine q0 _ ?_; clear q0 Q0; simp only [go_sem])
  simp only [↓bO, go_sem, seval, ActT.cells, lineA]
  refine y1 _ ?_
  try clear y1 Y1
  refine AWp_cond rfl (fun hb12 => ?_) (fun hb12 => ?_)
  ·
   have hlong : 200 < l.length := (by have h9 := hb12; simp at h9; omega)
   refine AWp_seqK fun Y1 y1 => ?_
   refine AWp_region ?_
   iterate 2 (refine aops_chunk 1 fun Q0 q0 => ?_; simp only [↓bO, go_sem, seval, ActT.cells, lineA]; refine q0 _ ?_; clear q0 Q0; simp only [go_sem])
   simp only [↓bO, go_sem, seval, ActT.cells, lineA]
   refine y1 _ ?_
   try clear y1 Y1
   refine AWp_ret ?_
   try simp only [thenQ, blockQ, noGotoQ, retQ, aRes, tupOf, bS, bA]
   rw [wrA_long hlong]
   exact Le.refl _
  ·
   have hnl : ¬ 200 < l.length := (by have h9 := hb12; simp at h9; omega)
   refine AWp_skip ?_
   try simp only [thenQ, blockQ, noGotoQ]
   refine y0 _ ?_
   try clear y0 Y0
   refine AWp_seqK fun Y0 y0 => ?_
   refine AWp_region ?_
   simp only [↓bO, go_sem, seval, ActT.cells, lineA]
   refine y0 _ ?_
   try clear y0 Y0
   refine AWp_seqK fun Y0 y0 => ?_
   refine AWp_seqK fun Y1 y1 => ?_
   refine AWp_region ?_
   iterate 2 (refine aops_chunk 1 fun Q0 q0 => ?_; simp only [↓bO, go_sem, seval, ActT.cells, lineA]; refine q0 _ ?_; clear q0 Q0; simp only [go_sem])
   simp only [↓bO, go_sem, seval, ActT.cells, lineA]
   refine y1 _ ?_
   try clear y1 Y1
   refine AWp_block ?_
   refine AWp_weak (Weak.rowCell 5 1 1 (id := 0) rfl rfl) ?_
   simp only [putO, Nat.reduceEqDiff, ↓reduceIte, List.set_cons_zero, List.set_cons_succ]
   refine AWp_loopM (σ := Nat) (mB 34 57376) (fun k => k ≤ l.length ∧ okTo l k) (fun k => [(15, .v (.int .i64 (k : Int)))]) (fun k => [(0, .cells 75 [bq 0 (decide (0 < k)), .own 1 (catL (l.take k)).size]), (1, .row 5 1 (strRows (catL (l.take k))))]) (fun k => l.length - k) 0 (⟨Nat.zero_le _, okTo.zero l⟩) ?_ (fun k hk => ?_)
   ·
    try simp only [maskL, setsL, putsO, putO, mB, List.set_cons_zero, List.set_cons_succ, seval, bL, catL, List.foldl_nil]
    exact Weak.mk (by simp only [go_sem, Le.refl, Le.any, Le.slNil, Int.natCast_add, Int.cast_ofNat_Int, Int.natCast_one]) (fun _ _ h => h) rfl rfl
   simp only [maskL, setsL, putsO, putO, mB, List.set_cons_zero, List.set_cons_succ, seval]
   have hki := hk.1
   have hw0 : IntKind.i64.wrap ((k : Int) + 1) = ((k + 1 : Nat) : Int) := by (rw [wrap_in (by omega) (by omega)]; omega)
   refine AWp_seqK fun Y1 y1 => ?_
   refine AWp_region ?_
   simp only [↓bO, go_sem, seval, ActT.cells, lineA, hw0]
   refine y1 _ ?_
   try clear y1 Y1
   refine AWp_seqK fun Y1 y1 => ?_
   refine AWp_cond rfl (fun hb16 => ?_) (fun hb16 => ?_)
   ·
    have hlt : k < l.length := (by have h9 := hb16; simpa using h9)
    obtain ⟨a, ha⟩ : ∃ a, l[k]? = some a := ⟨_, List.getElem?_eq_getElem hlt⟩
    have hga := getD_act ha
    have hwd := h.1 a (List.mem_of_getElem? ha)
    refine AWp_skip ?_
    try simp only [thenQ, blockQ, noGotoQ]
    refine y1 _ ?_
    try clear y1 Y1
    refine AWp_seqK fun Y1 y1 => ?_
    refine AWp_block ?_
    refine AWp_seqK fun Y2 y2 => ?_
    refine AWp_region ?_
    iterate 5 (refine aops_chunk 1 fun Q0 q0 => ?_; simp only [↓bO, go_sem, seval, ActT.cells, lineA, hw0, hlt, hga]; refine q0 _ ?_; clear q0 Q0; simp only [go_sem])
    simp only [↓bO, go_sem, seval, ActT.cells, lineA, hw0, hlt, hga]
    refine y2 _ ?_
    try clear y2 Y2
    refine AWp_seqK fun Y2 y2 => ?_
    refine AWp_region ?_
    refine aops_chunk 1 fun Q0 q0 => ?_
    simp only [↓bO, go_sem, seval, ActT.cells, lineA, hw0, hlt, hga]
    refine q0 _ ?_
    clear q0 Q0
    simp only [go_sem]
    refine aops_chunk 1 fun Q0 q0 => ?_
    simp only [↓bO, go_sem, seval, ActT.cells, lineA, hw0, hlt, hga]
    refine APure.call (TLine_pure a hwd.1 hwd.2.1 hwd.2.2) ?_
    try simp only [bS, bA, thenQ, blockQ, noGotoQ]
    refine q0 _ ?_
    clear q0 Q0
    simp only [go_sem]
    refine aops_chunk 1 fun Q0 q0 => ?_
    simp only [↓bO, go_sem, seval, ActT.cells, lineA, hw0, hlt, hga]
    iterate 2 (refine q0 _ ?_; clear q0 Q0; simp only [go_sem]; refine aops_chunk 1 fun Q0 q0 => ?_; simp only [↓bO, go_sem, seval, aExtract_tup, ActT.cells, lineA, hw0, hlt, hga])
    refine q0 _ ?_
    clear q0 Q0
    simp only [go_sem]
    refine aops_chunk 1 fun Q0 q0 => ?_
    simp only [↓bO, go_sem, seval, ActT.cells, lineA, hw0, hlt, hga]
    refine q0 _ ?_
    clear q0 Q0
    simp only [go_sem]
    simp only [↓bO, go_sem, seval, ActT.cells, lineA, hw0, hlt, hga]
    refine y2 _ ?_
    try clear y2 Y2
    refine AWp_seqK fun Y2 y2 => ?_
    refine AWp_seqK fun Y3 y3 => ?_
    refine AWp_region ?_
    refine aops_chunk 1 fun Q0 q0 => ?_
    simp only [↓bO, go_sem, seval, ActT.cells, lineA, hw0, hlt, hga]
    refine q0 _ ?_
    clear q0 Q0
    simp only [go_sem]
    simp only [↓bO, go_sem, seval, ActT.cells, lineA, hw0, hlt, hga]
    refine y3 _ ?_
    try clear y3 Y3
    refine AWp_cond rfl (fun hb26 => ?_) (fun hb26 => ?_)
    ·
     have herr : a.err ≠ 0 := (by have h9 := hb26; simpa using h9)
     refine AWp_seqK fun Y3 y3 => ?_
     refine AWp_region ?_
     iterate 4 (refine aops_chunk 1 fun Q0 q0 => ?_; simp only [↓bO, go_sem, seval, ActT.cells, lineA, hw0, hlt, hga]; refine q0 _ ?_; clear q0 Q0; simp only [go_sem])
     simp only [↓bO, go_sem, seval, ActT.cells, lineA, hw0, hlt, hga]
     refine y3 _ ?_
     try clear y3 Y3
     refine AWp_ret ?_
     try simp only [thenQ, blockQ, noGotoQ, retQ, aRes, tupOf, bS, bA]
     rw [wrA_bad hnl (badAt_first hk.2 ha herr)]
     exact Le.refl _
    ·
     have h0 : a.err = 0 := (by have h9 := hb26; simpa using h9)
     have hln := ActT.line_ok h0
     have htp := text_pos h0
     have hts := text_size hwd.1 h0
     have hcs := h.2 k (by omega) hk.2
     have hst := catL_step ha
     have hz1 : decide (0 < k + 1) = true := by simp
     refine AWp_skip ?_
     try simp only [thenQ, blockQ, noGotoQ]
     refine y2 _ ?_
     try clear y2 Y2
     refine AWp_seqK fun Y2 y2 => ?_
     refine AWp_region ?_
     refine aops_chunk 1 fun Q0 q0 => ?_
     simp only [↓bO, go_sem, seval, ActT.cells, lineA, hw0, hlt, hga, hln, hz1, hst]
     refine q0 _ ?_
     clear q0 Q0
     simp only [go_sem]
     simp only [↓bO, go_sem, seval, ActT.cells, lineA, hw0, hlt, hga, hln, hz1, hst]
     refine WriteString_at 0 1 (decide (0 < k)) (catL (l.take k)) a.text' htp (by omega) (by decide) ?_ ?_ ?_ ?_
     · rfl
     · rfl
     · first | omega | (simp only; omega)
     simp only [putO, Nat.reduceEqDiff, ↓reduceIte]
     try simp only [bS, bA, thenQ, blockQ, noGotoQ]
     refine y2 _ ?_
     try clear y2 Y2
     refine AWp_region ?_
     simp only [↓bO, go_sem, seval, ActT.cells, lineA, hw0, hlt, hga, hln, hz1, hst]
     refine WriteByte_at 0 1 true ((catL (l.take k)) ++ a.text') 10 (by rw [size_add]; omega) (by decide) ?_ ?_ ?_ ?_
     · first | rfl | (simp only [size_add]; rfl)
     · rfl
     · first | omega | (simp only; omega)
     simp only [putO, Nat.reduceEqDiff, ↓reduceIte]
     try simp only [bS, bA, thenQ, blockQ, noGotoQ]
     refine y1 _ ?_
     try clear y1 Y1
     refine AWp_region ?_
     refine aops_chunk 1 fun Q0 q0 => ?_
     simp only [↓bO, go_sem, seval, ActT.cells, lineA, hw0, hlt, hga, hln, hz1, hst]
     refine q0 _ ?_
     clear q0 Q0
     simp only [go_sem]
     simp only [↓bO, go_sem, seval, ActT.cells, lineA, hw0, hlt, hga, hln, hz1, hst]
     refine ⟨(k + 1), ⟨by omega, hk.2.step ha h0⟩, (by omega), ?_⟩
     simp only [maskL, setsL, putsO, putO, mB, List.set_cons_zero, List.set_cons_succ, seval, mB, seval, hst, hz1, size_add, hw0]
     refine Weak.drops 1 2 rfl rfl (by simp only; omega) (by simp only; omega) ?_ ?_ ?_
     · simp only [go_sem, Le.refl, Le.any]
     · repeat' first | exact trivial | exact .any _ | exact .v _ _ | exact .ptr (by omega) | exact .data (dataActs _) | exact .data (.eptr (ActT.data _)) | exact bq_undW _ | exact .own (by omega) | exact strRows_und _ | (with_reducible omega) | (refine ⟨?_, ?_⟩)
     · repeat' first | exact trivial | exact .any _ | exact .v _ _ | exact .ptr (by omega) | exact .data (dataActs _) | exact .data (.eptr (ActT.data _)) | exact bq_undW _ | exact .own (by omega) | exact strRows_und _ | (with_reducible omega) | (refine ⟨?_, ?_⟩)
   ·
    have hkl : k = l.length := (by have h9 := hb16; simp at h9; omega)
    have hct : l.take k = l := (by rw [hkl]; exact List.take_length)
    refine AWp_exit ?_
    simp only [thenQ, blockQ, noGotoQ, bA, Nat.reduceEqDiff, ↓reduceIte]
    refine y0 _ ?_
    try clear y0 Y0
    refine AWp_seqK fun Y0 y0 => ?_
    refine AWp_region ?_
    refine aops_chunk 1 fun Q0 q0 => ?_
    simp only [↓bO, go_sem, seval, ActT.cells, lineA, hct]
    refine String_at 0 1 (decide (0 < k)) (catL l) (catL_pos hne) (by decide) ?_ ?_ ?_ ?_
    · rfl
    · rfl
    · first | omega | (simp only; omega)
    simp only [delO, List.filter_cons, List.filter_nil, Nat.reduceBEq, Bool.not_true, Bool.not_false, Bool.false_eq_true, if_true, if_false]
    try simp only [bS, bA, thenQ, blockQ, noGotoQ]
    iterate 2 (refine q0 _ ?_; clear q0 Q0; simp only [go_sem]; refine aops_chunk 1 fun Q0 q0 => ?_; simp only [↓bO, go_sem, seval, ActT.cells, lineA, hct])
    refine q0 _ ?_
    clear q0 Q0
    simp only [go_sem]
    simp only [↓bO, go_sem, seval, ActT.cells, lineA, hct]
    refine y0 _ ?_
    try clear y0 Y0
    refine AWp_ret ?_
    try simp only [thenQ, blockQ, noGotoQ, retQ, aRes, tupOf, bS, bA]
    rw [wrA_ok hnl (badAt_none (by have := hk.2; rwa [hkl] at this))]
    exact Le.refl _
theorem Write_pure (l : List ActT) (h : ActsIn l) (hl63 : l.length ≤ 9223372036854775807) : APure Tryd.prog 20 [.sl 9 (l.map ActT.cells)] (wrA l) := by
  by_cases hne : l = []
  · subst hne; exact Write_nil
  · exact Write_more l h hne hl63
def nlL (s : ByteArray) : ByteArray := ofL (Lib.cut (tb s) [10]).1
def nlR (s : ByteArray) : ByteArray := ofL (Lib.cut (tb s) [10]).2.1
def nlE (s : ByteArray) : Bool := (Lib.cut (tb s) [10]).2.2
theorem TCutN (s : ByteArray) (hs : s.size ≤ 1048576) : APure Tryd.prog 40 [.v (.string s), .v (.string ⟨#[10]⟩)] (.tup [.v (.string (nlL s)), .v (.string (nlR s)), .v (.bool (nlE s))]) := TCut_pure s 10 hs
theorem nl_size (s : ByteArray) : (nlL s).size ≤ s.size ∧ (nlR s).size ≤ s.size ∧ (nlE s = true → (nlL s).size + 1 + (nlR s).size = s.size) := by
  have hl := tb_len s
  unfold nlL nlR nlE
  rw [ofL_size, ofL_size]
  rcases cut1_or 10 (tb s) with h | ⟨x, r, h1, h⟩
  · rw [cut1_no h]; refine ⟨by simp; omega, by simp, fun h => by cases h⟩
  · rw [h1] at hl ⊢
    rw [cut1_at h]
    simp only [List.length_append, List.length_cons] at hl ⊢
    exact ⟨by omega, by omega, fun _ => by omega⟩
structure RdR where
  l : List ActT
  n : Nat
  e : Int
noncomputable def rdF : Nat → Nat → ByteArray → List ActT → RdR
  | 0, _, _, out => ⟨out, 0, 0⟩
  | n + 1, i, s, out => if s.size = 0 then ⟨out, 0, 0⟩ else if i = 200 then ⟨[], i, 2⟩ else if nlE s = true ∧ prgE (nlL s) = 0 then rdF n (i + 1) (nlR s) (out ++ [prgA (nlL s)]) else ⟨[], i, 3⟩
noncomputable def rdA (s : ByteArray) : RdR := rdF (s.size + 1) 0 s []
structure RdS where
  n : Nat
  i : Nat
  s : ByteArray
  out : List ActT
def RdS.ok (s0 : ByteArray) (w : RdS) : Prop := rdF w.n w.i w.s w.out = rdA s0 ∧ w.s.size < w.n ∧ w.i ≤ 200 ∧ w.out.length = w.i ∧ w.s.size ≤ s0.size
theorem RdS.start (s0 : ByteArray) : RdS.ok s0 ⟨s0.size + 1, 0, s0, []⟩ := ⟨rfl, Nat.lt_succ_self _, Nat.zero_le _, rfl, Nat.le_refl _⟩
section
variable {s0 : ByteArray} {w : RdS}
theorem RdS.ok.stop (h : w.ok s0) (hz : w.s.size = 0) : rdA s0 = ⟨w.out, 0, 0⟩ := by
  obtain ⟨h1, h2, _⟩ := h
  obtain ⟨m, hm⟩ : ∃ m, w.n = m + 1 := ⟨w.n - 1, by omega⟩
  rw [← h1, hm, rdF, if_pos hz]
theorem RdS.ok.long (h : w.ok s0) (hz : ¬ w.s.size = 0) (hi : w.i = 200) : rdA s0 = ⟨[], w.i, 2⟩ := by
  obtain ⟨h1, h2, _⟩ := h
  obtain ⟨m, hm⟩ : ∃ m, w.n = m + 1 := ⟨w.n - 1, by omega⟩
  rw [← h1, hm, rdF, if_neg hz, if_pos hi]
theorem RdS.ok.bad (h : w.ok s0) (hz : ¬ w.s.size = 0) (hi : ¬ w.i = 200) (hb : ¬ (nlE w.s = true ∧ prgE (nlL w.s) = 0)) : rdA s0 = ⟨[], w.i, 3⟩ := by
  obtain ⟨h1, h2, _⟩ := h
  obtain ⟨m, hm⟩ : ∃ m, w.n = m + 1 := ⟨w.n - 1, by omega⟩
  rw [← h1, hm, rdF, if_neg hz, if_neg hi, if_neg hb]
theorem RdS.ok.next (h : w.ok s0) (hz : ¬ w.s.size = 0) (hi : ¬ w.i = 200) (h9 : nlE w.s = true) (h8 : prgE (nlL w.s) = 0) : RdS.ok s0 ⟨w.n - 1, w.i + 1, nlR w.s, w.out ++ [prgA (nlL w.s)]⟩ := by
  obtain ⟨h1, h2, h3, h4, h5⟩ := h
  obtain ⟨m, hm⟩ : ∃ m, w.n = m + 1 := ⟨w.n - 1, by omega⟩
  have hs := (nl_size w.s).2.2 h9
  rw [hm, rdF, if_neg hz, if_neg hi, if_pos ⟨h9, h8⟩] at h1
  refine ⟨by simp only [hm, Nat.add_sub_cancel]; exact h1, by simp only; omega, by simp only; omega, by simp [h4], by simp only; omega⟩
end
theorem prg_doc (s : ByteArray) : docA s = prgA s ∧ (docB s = true ↔ prgE s = 0) := by
  rcases parse_alike s with ⟨a, _, h1, h2, h3, h4⟩ | ⟨_, h1, h2, h3, h4⟩
  · exact ⟨by rw [h3, h1], by rw [h2, h4]; simp⟩
  · exact ⟨by rw [h3, h1], by rw [h2, h4]; simp⟩
theorem str_ne0 {s : ByteArray} (h : (!(s.toList == (⟨#[]⟩ : ByteArray).toList)) = true) : ¬ s.size = 0 := by
  rw [strNe] at h; exact of_decide_eq_true h
theorem str_eq0 {s : ByteArray} (h : (!(s.toList == (⟨#[]⟩ : ByteArray).toList)) = false) : s.size = 0 := by
  rw [strNe] at h; exact Decidable.not_not.1 (of_decide_eq_false h)
theorem undActs1 {n id : Nat} {l : List ActT} (x : ActT) (h : id < n) : Und n (.osl id 9 (l.map ActT.cells ++ [[.v (.int .i64 x.k), .v (.string x.name), .v (.int .i64 x.p1), .v (.int .i64 x.p2), .v (.string x.text), .v (.int .i64 x.n), .v (.int .i64 x.lb), .v (.int .i64 x.ld), .v (.int .i64 x.le)]])) := by
  have h1 : Und n (.osl id 9 ((l ++ [x]).map ActT.cells)) := .osl h (.data (dataActs _))
  rw [List.map_append] at h1
  exact h1
def nlP (s : ByteArray) (k : Nat) : Prop := k ≤ s.size ∧ ∀ c ∈ (tb s).take k, c ≠ 10
theorem nlP.step {s : ByteArray} {k : Nat} (h : nlP s k) (hk : k < s.size) {c : UInt8} (hc : (s[k]?).getD 0 = c) (hn : c ≠ 10) : nlP s (k + 1) := by
  refine ⟨by omega, fun x hx => ?_⟩
  have h7 := byte_tb hk
  rw [hc] at h7
  rw [List.take_add_one, h7] at hx
  rcases List.mem_append.1 hx with hx | hx
  · exact h.2 x hx
  · have hx : x = c := by simpa using hx
    rw [hx]; exact hn
theorem nlP.at {s : ByteArray} {k : Nat} (h : nlP s k) (hk : k < s.size) (hc : (s[k]?).getD 0 = 10) : nlE s = true ∧ s.extract 0 k = nlL s ∧ s.extract (k + 1) s.size = nlR s ∧ (nlL s).size = k := by
  have h7 := byte_tb hk
  rw [hc] at h7
  obtain ⟨h2, h3⟩ := List.getElem?_eq_some_iff.1 h7
  have hsp : tb s = (tb s).take k ++ 10 :: (tb s).drop (k + 1) := by
    conv => lhs; rw [← List.take_append_drop k (tb s)]
    rw [List.drop_eq_getElem_cons h2, h3]
  have hcut : Lib.cut (tb s) [10] = ((tb s).take k, (tb s).drop (k + 1), true) := by
    conv => lhs; rw [hsp]
    exact cut1_at h.2
  unfold nlE nlL nlR
  rw [hcut, ex_tb, ex_tb, ofL_size]
  have hl := tb_len s
  refine ⟨rfl, by simp, ?_, by simp; omega⟩
  rw [List.take_of_length_le (by rw [List.length_drop]; omega)]
theorem nlP.no {s : ByteArray} {k : Nat} (h : nlP s k) (hk : k = s.size) : nlE s = false ∧ s.extract 0 k = nlL s := by
  have hl := tb_len s
  have hall : ∀ c ∈ tb s, c ≠ 10 := fun c hc => h.2 c (by rw [List.take_of_length_le (by omega)]; exact hc)
  unfold nlE nlL
  rw [cut1_no hall, ex_tb]
  refine ⟨rfl, ?_⟩
  rw [List.drop_zero, List.take_of_length_le (by omega)]
theorem Read_pure (s : ByteArray) (hs : s.size ≤ 600000) : APure Tryd.prog 21 [.v (.string s)] (.tup [.sl 9 ((rdA s).l.map ActT.cells), .v (.int .i64 ((rdA s).n : Int)), .v (.int .i64 (rdA s).e)]) := by
  refine APure.mkL (.cons (.v _) .nil) ((.tup (.cons (dataActs _) (.cons (.v _) (.cons (.v _) .nil))))) ?_
  refine ACalls_intro Tryd.func21 (by kernel_rfl) rfl (by rw [Tryd.ntmps21]; simp) (fun hm => ?_)
  simp only [Tryd.ntmps21, Tryd.results21, List.length_cons, List.length_nil, Nat.reduceAdd, Nat.reduceSub, List.replicate_succ, List.replicate_zero, List.cons_append, List.nil_append]
  refine AWp_seqK fun Y0 y0 => ?_
  refine AWp_region ?_
  iterate 2 (refine aops_chunk 1 fun Q0 q0 => ?_; simp only [↓bO, go_sem, seval, ActT.cells]; refine q0 _ ?_; clear q0 Q0; simp only [go_sem])
  simp only [↓bO, go_sem, seval, ActT.cells]
  refine y0 _ ?_
  try clear y0 Y0
  refine AWp_seqK fun Y0 y0 => ?_
  refine AWp_region ?_
  simp only [↓bO, go_sem, seval, ActT.cells]
  refine y0 _ ?_
  try clear y0 Y0
  refine AWp_seqK fun Y0 y0 => ?_
  refine AWp_seqK fun Y1 y1 => ?_
  refine AWp_region ?_
  simp only [↓bO, go_sem, seval, ActT.cells]
  refine y1 _ ?_
  try clear y1 Y1
  refine AWp_block ?_
  refine AWp_weak (Weak.tokSlot 5 30 9 rfl) ?_
  simp only [List.set_cons_zero, List.set_cons_succ]
  refine AWp_loopM (σ := RdS) (mB 45 97) (fun w => w.ok s) (fun w => [(0, .v (.string w.s)), (5, .osl 0 9 (w.out.map ActT.cells)), (6, .v (.int .i64 (w.i : Int)))]) (fun w => [(0, .tok 30 9 w.out.length)]) (fun w => w.s.size) ⟨s.size + 1, 0, s, []⟩ (RdS.start s) ?_ (fun w hw => ?_)
  ·
   try simp only [maskL, setsL, putsO, putO, mB, List.set_cons_zero, List.set_cons_succ, seval, bL, Int.natCast_zero]
   exact Weak.mk (by simp only [go_sem, Le.refl, Le.any, Le.slNil, Int.natCast_add, Int.cast_ofNat_Int, Int.natCast_one]) (fun _ _ h => h) rfl rfl
  simp only [maskL, setsL, putsO, putO, mB, List.set_cons_zero, List.set_cons_succ, seval]
  have hwi := hw.2.2.1
  have hwo := hw.2.2.2.1
  have hws := hw.2.2.2.2
  have hw0 : IntKind.i64.wrap ((w.i : Int) + 1) = ((w.i + 1 : Nat) : Int) := by (rw [wrap_in (by omega) (by omega)]; omega)
  have hnz := nl_size w.s
  have hb1 : (w.out.length + 1) * 88 ≤ 140737488355328 := by omega
  have hb2 : w.out.length + 1 ≤ maxLen := by (simp only [maxLen]; omega)
  refine AWp_seqK fun Y1 y1 => ?_
  refine AWp_seqK fun Y2 y2 => ?_
  refine AWp_region ?_
  refine aops_chunk 1 fun Q0 q0 => ?_
  simp only [↓bO, go_sem, seval, ActT.cells, hw0, hb1, hb2, List.map_append, List.length_append]
  refine q0 _ ?_
  clear q0 Q0
  simp only [go_sem]
  simp only [↓bO, go_sem, seval, ActT.cells, hw0, hb1, hb2, List.map_append, List.length_append]
  refine y2 _ ?_
  try clear y2 Y2
  refine AWp_cond rfl (fun hb13 => ?_) (fun hb13 => ?_)
  ·
   have hz : ¬ w.s.size = 0 := str_ne0 hb13
   refine AWp_skip ?_
   try simp only [thenQ, blockQ, noGotoQ]
   refine y1 _ ?_
   try clear y1 Y1
   refine AWp_seqK fun Y1 y1 => ?_
   refine AWp_block ?_
   refine AWp_seqK fun Y2 y2 => ?_
   refine AWp_region ?_
   refine aops_chunk 1 fun Q0 q0 => ?_
   simp only [↓bO, go_sem, seval, ActT.cells, hw0, hb1, hb2, List.map_append, List.length_append]
   refine q0 _ ?_
   clear q0 Q0
   simp only [go_sem]
   refine aops_chunk 1 fun Q0 q0 => ?_
   simp only [↓bO, go_sem, seval, ActT.cells, hw0, hb1, hb2, List.map_append, List.length_append]
   refine APure.call (TCutN w.s (by omega)) ?_
   try simp only [bS, bA, thenQ, blockQ, noGotoQ]
   refine q0 _ ?_
   clear q0 Q0
   simp only [go_sem]
   refine aops_chunk 1 fun Q0 q0 => ?_
   simp only [↓bO, go_sem, seval, ActT.cells, hw0, hb1, hb2, List.map_append, List.length_append]
   iterate 3 (refine q0 _ ?_; clear q0 Q0; simp only [go_sem]; refine aops_chunk 1 fun Q0 q0 => ?_; simp only [↓bO, go_sem, seval, aExtract_tup, ActT.cells, hw0, hb1, hb2, List.map_append, List.length_append])
   iterate 2 (refine q0 _ ?_; clear q0 Q0; simp only [go_sem]; refine aops_chunk 1 fun Q0 q0 => ?_; simp only [↓bO, go_sem, seval, ActT.cells, hw0, hb1, hb2, List.map_append, List.length_append])
   refine q0 _ ?_
   clear q0 Q0
   simp only [go_sem]
   simp only [↓bO, go_sem, seval, ActT.cells, hw0, hb1, hb2, List.map_append, List.length_append]
   refine y2 _ ?_
   try clear y2 Y2
   refine AWp_seqK fun Y2 y2 => ?_
   refine AWp_region ?_
   refine aops_chunk 1 fun Q0 q0 => ?_
   simp only [↓bO, go_sem, seval, ActT.cells, hw0, hb1, hb2, List.map_append, List.length_append]
   refine q0 _ ?_
   clear q0 Q0
   simp only [go_sem]
   refine aops_chunk 1 fun Q0 q0 => ?_
   simp only [↓bO, go_sem, seval, ActT.cells, hw0, hb1, hb2, List.map_append, List.length_append]
   refine APure.call (TParse_pure (nlL w.s) (by omega)) ?_
   try simp only [bS, bA, thenQ, blockQ, noGotoQ]
   refine q0 _ ?_
   clear q0 Q0
   simp only [go_sem]
   refine aops_chunk 1 fun Q0 q0 => ?_
   simp only [↓bO, go_sem, seval, ActT.cells, hw0, hb1, hb2, List.map_append, List.length_append]
   iterate 2 (refine q0 _ ?_; clear q0 Q0; simp only [go_sem]; refine aops_chunk 1 fun Q0 q0 => ?_; simp only [↓bO, go_sem, seval, aExtract_tup, ActT.cells, hw0, hb1, hb2, List.map_append, List.length_append])
   iterate 2 (refine q0 _ ?_; clear q0 Q0; simp only [go_sem]; refine aops_chunk 1 fun Q0 q0 => ?_; simp only [↓bO, go_sem, seval, ActT.cells, hw0, hb1, hb2, List.map_append, List.length_append])
   refine q0 _ ?_
   clear q0 Q0
   simp only [go_sem]
   simp only [↓bO, go_sem, seval, ActT.cells, hw0, hb1, hb2, List.map_append, List.length_append]
   refine y2 _ ?_
   try clear y2 Y2
   refine AWp_seqK fun Y2 y2 => ?_
   refine AWp_block ?_
   refine AWp_seqK fun Y3 y3 => ?_
   refine AWp_region ?_
   iterate 2 (refine aops_chunk 1 fun Q0 q0 => ?_; simp only [↓bO, go_sem, seval, ActT.cells, hw0, hb1, hb2, List.map_append, List.length_append]; refine q0 _ ?_; clear q0 Q0; simp only [go_sem])
   simp only [↓bO, go_sem, seval, ActT.cells, hw0, hb1, hb2, List.map_append, List.length_append]
   refine y3 _ ?_
   try clear y3 Y3
   refine AWp_cond rfl (fun hb27 => ?_) (fun hb27 => ?_)
   ·
    have hi2 : w.i = 200 := (by have h9 := hb27; simp at h9; omega)
    have hst := hw.long hz hi2
    refine AWp_seqK fun Y3 y3 => ?_
    refine AWp_region ?_
    iterate 3 (refine aops_chunk 1 fun Q0 q0 => ?_; simp only [↓bO, go_sem, seval, ActT.cells, hw0, hb1, hb2, List.map_append, List.length_append]; refine q0 _ ?_; clear q0 Q0; simp only [go_sem])
    simp only [↓bO, go_sem, seval, ActT.cells, hw0, hb1, hb2, List.map_append, List.length_append]
    refine y3 _ ?_
    try clear y3 Y3
    refine AWp_ret ?_
    try simp only [thenQ, blockQ, noGotoQ, retQ, aRes, tupOf, bS, bA]
    rw [hst]
    exact Le.tup ⟨Le.slNil 9, .refl _, .refl _, trivial⟩
   ·
    have hi2 : ¬ w.i = 200 := (by have h9 := hb27; simp at h9; omega)
    refine AWp_seqK fun Y3 y3 => ?_
    refine AWp_region ?_
    iterate 3 (refine aops_chunk 1 fun Q0 q0 => ?_; simp only [↓bO, go_sem, seval, ActT.cells, hw0, hb1, hb2, List.map_append, List.length_append]; refine q0 _ ?_; clear q0 Q0; simp only [go_sem])
    refine aops_case 34 rfl (fun hc34 => ?_) (fun hc34 => ?_)
    ·
     simp only [List.set_cons_zero, List.set_cons_succ]
     have h9 : nlE w.s = false := (by have h9 := hc34; simpa using h9)
     have hst := hw.bad hz hi2 (fun h => by rw [h9] at h; cases h.1)
     iterate 3 (refine aops_chunk 1 fun Q0 q0 => ?_; simp only [↓bO, go_sem, seval, ActT.cells, hw0, hb1, hb2, List.map_append, List.length_append]; refine q0 _ ?_; clear q0 Q0; simp only [go_sem])
     simp only [↓bO, go_sem, seval, ActT.cells, hw0, hb1, hb2, List.map_append, List.length_append]
     refine y3 _ ?_
     try clear y3 Y3
     refine AWp_cond (b := true) (by first | exact rfl | exact congrArg (fun b => AV.v (.bool b)) hb31) (fun _ => ?_) (fun h => (by cases h))
     refine AWp_seqK fun Y3 y3 => ?_
     refine AWp_region ?_
     iterate 3 (refine aops_chunk 1 fun Q0 q0 => ?_; simp only [↓bO, go_sem, seval, ActT.cells, hw0, hb1, hb2, List.map_append, List.length_append]; refine q0 _ ?_; clear q0 Q0; simp only [go_sem])
     simp only [↓bO, go_sem, seval, ActT.cells, hw0, hb1, hb2, List.map_append, List.length_append]
     refine y3 _ ?_
     try clear y3 Y3
     refine AWp_ret ?_
     try simp only [thenQ, blockQ, noGotoQ, retQ, aRes, tupOf, bS, bA]
     rw [hst]
     exact Le.tup ⟨Le.slNil 9, .refl _, .refl _, trivial⟩
    ·
     simp only [List.set_cons_zero, List.set_cons_succ]
     have h9 : nlE w.s = true := (by have h9 := hc34; simpa using h9)
     iterate 3 (refine aops_chunk 1 fun Q0 q0 => ?_; simp only [↓bO, go_sem, seval, ActT.cells, hw0, hb1, hb2, List.map_append, List.length_append]; refine q0 _ ?_; clear q0 Q0; simp only [go_sem])
     simp only [↓bO, go_sem, seval, ActT.cells, hw0, hb1, hb2, List.map_append, List.length_append]
     refine y3 _ ?_
     try clear y3 Y3
     refine AWp_cond rfl (fun hb31 => ?_) (fun hb31 => ?_)
     ·
      have hst : rdA s = ⟨[], w.i, 3⟩ := by (first | exact hst | exact hw.bad hz hi2 (fun h => by (have h7 := hb31; rw [h.2] at h7; simp at h7)))
      refine AWp_seqK fun Y3 y3 => ?_
      refine AWp_region ?_
      iterate 3 (refine aops_chunk 1 fun Q0 q0 => ?_; simp only [↓bO, go_sem, seval, ActT.cells, hw0, hb1, hb2, List.map_append, List.length_append]; refine q0 _ ?_; clear q0 Q0; simp only [go_sem])
      simp only [↓bO, go_sem, seval, ActT.cells, hw0, hb1, hb2, List.map_append, List.length_append]
      refine y3 _ ?_
      try clear y3 Y3
      refine AWp_ret ?_
      try simp only [thenQ, blockQ, noGotoQ, retQ, aRes, tupOf, bS, bA]
      rw [hst]
      exact Le.tup ⟨Le.slNil 9, .refl _, .refl _, trivial⟩
     ·
      have h8 : prgE (nlL w.s) = 0 := (by have h9 := hb31; simpa using h9)
      refine AWp_skip ?_
      try simp only [thenQ, blockQ, noGotoQ]
      refine y2 _ ?_
      try clear y2 Y2
      refine AWp_region ?_
      iterate 2 (refine aops_chunk 1 fun Q0 q0 => ?_; simp only [↓bO, go_sem, seval, ActT.cells, hw0, hb1, hb2, List.map_append, List.length_append]; refine q0 _ ?_; clear q0 Q0; simp only [go_sem])
      refine aops_chunk 1 fun Q0 q0 => ?_
      simp only [↓bO, go_sem, seval, ↓bs1_1, ↓bs1_2, ↓bs1_3, ↓bs1_4, ↓bs1_5, ↓bs1_6, ↓bs1_7, ↓bs1_8, ↓bs1_9, ↓bs1_10, ↓bs1_11, ↓bs1_12, ActT.cells, hw0, hb1, hb2, List.map_append, List.length_append]
      iterate 3 (refine q0 _ ?_; clear q0 Q0; simp only [go_sem]; refine aops_chunk 1 fun Q0 q0 => ?_; simp only [↓bO, go_sem, seval, ActT.cells, hw0, hb1, hb2, List.map_append, List.length_append])
      refine q0 _ ?_
      clear q0 Q0
      simp only [go_sem]
      simp only [↓bO, go_sem, seval, ActT.cells, hw0, hb1, hb2, List.map_append, List.length_append]
      refine y1 _ ?_
      try clear y1 Y1
      refine AWp_region ?_
      iterate 2 (refine aops_chunk 1 fun Q0 q0 => ?_; simp only [↓bO, go_sem, seval, ActT.cells, hw0, hb1, hb2, List.map_append, List.length_append]; refine q0 _ ?_; clear q0 Q0; simp only [go_sem])
      simp only [↓bO, go_sem, seval, ActT.cells, hw0, hb1, hb2, List.map_append, List.length_append]
      refine ⟨⟨w.n - 1, w.i + 1, nlR w.s, w.out ++ [prgA (nlL w.s)]⟩, hw.next hz hi2 h9 h8, (by have := (nl_size w.s).2.2 h9; simp only; omega), ?_⟩
      simp only [maskL, setsL, putsO, putO, mB, List.set_cons_zero, List.set_cons_succ, seval, hw0, hb1, hb2, List.map_append, bL, List.length_append, ActT.cells]
      first | (refine Weak.drops 1 1 rfl rfl (by simp only; omega) (by simp only; omega) ?_ ?_ ?_) | (refine Weak.drops 0 1 rfl rfl (by simp only; omega) (by simp only; omega) ?_ ?_ ?_)
      · simp only [go_sem, Le.refl, Le.any, Int.natCast_add, Int.cast_ofNat_Int, Int.natCast_one]
      · simp only [UndL, UndOs, Ob.Und, and_true, true_and, and_self, Und.v, Und.any, Und.ptr, Und.map, Nat.reduceLT, Nat.zero_lt_succ, Und.tys, Und.tyAgg, Und.oslTys, Und.oslTys1, Und.clo0, Und.ty, undActs1]
      · simp only [UndL, UndOs, Ob.Und, and_true, true_and, and_self, Und.v, Und.any, Und.ptr, Und.map, Nat.reduceLT, Nat.zero_lt_succ, Und.tys, Und.tyAgg, Und.oslTys, Und.oslTys1, Und.clo0, Und.ty, undActs1]
  ·
   have hz : w.s.size = 0 := str_eq0 hb13
   have hst := hw.stop hz
   refine AWp_exit ?_
   simp only [thenQ, blockQ, noGotoQ, bA, Nat.reduceEqDiff, ↓reduceIte]
   refine y0 _ ?_
   try clear y0 Y0
   refine AWp_seqK fun Y0 y0 => ?_
   refine AWp_region ?_
   iterate 3 (refine aops_chunk 1 fun Q0 q0 => ?_; simp only [↓bO, go_sem, seval, ActT.cells]; refine q0 _ ?_; clear q0 Q0; simp only [go_sem])
   simp only [↓bO, go_sem, seval, ActT.cells]
   refine y0 _ ?_
   try clear y0 Y0
   refine AWp_ret ?_
   try simp only [thenQ, blockQ, noGotoQ, retQ, aRes, tupOf, bS, bA]
   rw [hst]
   exact Le.tup ⟨Le.osl _ _ _, .refl _, .refl _, trivial⟩
theorem RRead_pure (s : ByteArray) (hs : s.size ≤ 600000) : APure Tryd.prog 23 [.v (.string s)] (.tup [.sl 9 ((rdA s).l.map ActT.cells), .v (.int .i64 ((rdA s).n : Int)), .v (.int .i64 (rdA s).e)]) := by
  refine APure.mkL (.cons (.v _) .nil) ((.tup (.cons (dataActs _) (.cons (.v _) (.cons (.v _) .nil))))) ?_
  refine ACalls_intro Tryd.func23 (by kernel_rfl) rfl (by rw [Tryd.ntmps23]; simp) (fun hm => ?_)
  simp only [Tryd.ntmps23, Tryd.results23, List.length_cons, List.length_nil, Nat.reduceAdd, Nat.reduceSub, List.replicate_succ, List.replicate_zero, List.cons_append, List.nil_append]
  refine AWp_seqK fun Y0 y0 => ?_
  refine AWp_region ?_
  iterate 2 (refine aops_chunk 1 fun Q0 q0 => ?_; simp only [↓bO, go_sem, seval, ActT.cells]; refine q0 _ ?_; clear q0 Q0; simp only [go_sem])
  simp only [↓bO, go_sem, seval, ActT.cells]
  refine y0 _ ?_
  try clear y0 Y0
  refine AWp_seqK fun Y0 y0 => ?_
  refine AWp_region ?_
  simp only [↓bO, go_sem, seval, ActT.cells]
  refine y0 _ ?_
  try clear y0 Y0
  refine AWp_seqK fun Y0 y0 => ?_
  refine AWp_seqK fun Y1 y1 => ?_
  refine AWp_region ?_
  simp only [↓bO, go_sem, seval, ActT.cells]
  refine y1 _ ?_
  try clear y1 Y1
  refine AWp_block ?_
  refine AWp_weak (Weak.tokSlot 5 30 9 rfl) ?_
  simp only [List.set_cons_zero, List.set_cons_succ]
  refine AWp_loopM (σ := RdS) (mB 54 97) (fun w => w.ok s) (fun w => [(0, .v (.string w.s)), (5, .osl 0 9 (w.out.map ActT.cells)), (6, .v (.int .i64 (w.i : Int)))]) (fun w => [(0, .tok 30 9 w.out.length)]) (fun w => w.s.size) ⟨s.size + 1, 0, s, []⟩ (RdS.start s) ?_ (fun w hw => ?_)
  ·
   try simp only [maskL, setsL, putsO, putO, mB, List.set_cons_zero, List.set_cons_succ, seval, bL, Int.natCast_zero]
   exact Weak.mk (by simp only [go_sem, Le.refl, Le.any, Le.slNil, Int.natCast_add, Int.cast_ofNat_Int, Int.natCast_one]) (fun _ _ h => h) rfl rfl
  simp only [maskL, setsL, putsO, putO, mB, List.set_cons_zero, List.set_cons_succ, seval]
  have hwi := hw.2.2.1
  have hwo := hw.2.2.2.1
  have hws := hw.2.2.2.2
  have hw0 : IntKind.i64.wrap ((w.i : Int) + 1) = ((w.i + 1 : Nat) : Int) := by (rw [wrap_in (by omega) (by omega)]; omega)
  have hnz := nl_size w.s
  have hb1 : (w.out.length + 1) * 88 ≤ 140737488355328 := by omega
  have hb2 : w.out.length + 1 ≤ maxLen := by (simp only [maxLen]; omega)
  refine AWp_seqK fun Y1 y1 => ?_
  refine AWp_seqK fun Y2 y2 => ?_
  refine AWp_region ?_
  refine aops_chunk 1 fun Q0 q0 => ?_
  simp only [↓bO, go_sem, seval, ActT.cells, hw0, hb1, hb2, List.map_append, List.length_append]
  refine q0 _ ?_
  clear q0 Q0
  simp only [go_sem]
  simp only [↓bO, go_sem, seval, ActT.cells, hw0, hb1, hb2, List.map_append, List.length_append]
  refine y2 _ ?_
  try clear y2 Y2
  refine AWp_cond rfl (fun hb11 => ?_) (fun hb11 => ?_)
  ·
   have hz : ¬ w.s.size = 0 := str_ne0 hb11
   refine AWp_skip ?_
   try simp only [thenQ, blockQ, noGotoQ]
   refine y1 _ ?_
   try clear y1 Y1
   refine AWp_seqK fun Y1 y1 => ?_
   refine AWp_block ?_
   refine AWp_seqK fun Y2 y2 => ?_
   refine AWp_region ?_
   simp only [↓bO, go_sem, seval, ActT.cells, hw0, hb1, hb2, List.map_append, List.length_append]
   refine y2 _ ?_
   try clear y2 Y2
   refine AWp_seqK fun Y2 y2 => ?_
   refine AWp_block ?_
   refine AWp_loopM (σ := Nat) (mB 54 225) (fun k => nlP w.s k) (fun k => [(7, .v (.int .i64 (k : Int)))]) (fun k => []) (fun k => w.s.size - k) 0 (⟨Nat.zero_le _, fun c hc => by simp at hc⟩) ?_ (fun k hk => ?_)
   ·
    try simp only [maskL, setsL, putsO, putO, mB, List.set_cons_zero, List.set_cons_succ, seval, Int.natCast_zero]
    exact Weak.mk (by simp only [go_sem, Le.refl, Le.any, Le.slNil, Int.natCast_add, Int.cast_ofNat_Int, Int.natCast_one]) (fun _ _ h => h) rfl rfl
   simp only [maskL, setsL, putsO, putO, mB, List.set_cons_zero, List.set_cons_succ, seval]
   have hkz := hk.1
   have hw2 : IntKind.i64.wrap ((k : Int) + 1) = ((k + 1 : Nat) : Int) := by (rw [wrap_in (by omega) (by omega)]; omega)
   refine AWp_seqK fun Y3 y3 => ?_
   refine AWp_seqK fun Y4 y4 => ?_
   refine AWp_region ?_
   iterate 5 (refine aops_chunk 1 fun Q0 q0 => ?_; simp only [↓bO, go_sem, seval, ActT.cells, hw0, hb1, hb2, List.map_append, List.length_append, hw2]; refine q0 _ ?_; clear q0 Q0; simp only [go_sem])
   refine aops_case 18 rfl (fun hc18 => ?_) (fun hc18 => ?_)
   ·
    simp only [List.set_cons_zero, List.set_cons_succ]
    have hkl : k < w.s.size := (by have h9 := hc18; simpa using h9)
    obtain ⟨c, hc⟩ : ∃ c, (w.s[k]?).getD 0 = c := ⟨_, rfl⟩
    iterate 4 (refine aops_chunk 1 fun Q0 q0 => ?_; simp only [↓bO, go_sem, seval, ActT.cells, hw0, hb1, hb2, List.map_append, List.length_append, hw2, hkl, hc]; refine q0 _ ?_; clear q0 Q0; simp only [go_sem])
    simp only [↓bO, go_sem, seval, ActT.cells, hw0, hb1, hb2, List.map_append, List.length_append, hw2, hkl, hc]
    refine y4 _ ?_
    try clear y4 Y4
    refine AWp_cond rfl (fun hb23 => ?_) (fun hb23 => ?_)
    ·
     have hc10 : c ≠ 10 := by (intro h8; have h9 := hb23; rw [h8] at h9; exact absurd h9 (by decide))
     refine AWp_skip ?_
     try simp only [thenQ, blockQ, noGotoQ]
     refine y3 _ ?_
     try clear y3 Y3
     refine AWp_block ?_
     refine AWp_region ?_
     iterate 2 (refine aops_chunk 1 fun Q0 q0 => ?_; simp only [↓bO, go_sem, seval, ActT.cells, hw0, hb1, hb2, List.map_append, List.length_append, hw2, hkl, hc]; refine q0 _ ?_; clear q0 Q0; simp only [go_sem])
     simp only [↓bO, go_sem, seval, ActT.cells, hw0, hb1, hb2, List.map_append, List.length_append, hw2, hkl, hc]
     refine ⟨(k + 1), hk.step hkl hc hc10, (by omega), ?_⟩
     try simp only [maskL, setsL, putsO, putO, mB, List.set_cons_zero, List.set_cons_succ, seval, hw2, hkl, hc]
     exact Weak.mk (by simp only [go_sem, Le.refl, Le.any, Le.slNil, Int.natCast_add, Int.cast_ofNat_Int, Int.natCast_one]) (fun _ _ h => h) rfl rfl
    ·
     have hat := hk.at hkl (by rw [hc]; exact UInt8.toNat_inj.1 (by (have h9 := hb23; simp at h9; show c.toNat = 10; omega)))
     have hP : (k = w.s.size ∧ nlE w.s = false ∧ w.s.extract 0 k = nlL w.s) ∨ (k < w.s.size ∧ nlE w.s = true ∧ w.s.extract 0 k = nlL w.s ∧ w.s.extract (k + 1) w.s.size = nlR w.s) := .inr ⟨hkl, hat.1, hat.2.1, hat.2.2.1⟩
     have hex : w.s.extract 0 k = nlL w.s := by (rcases hP with h | h; exact h.2.2; exact h.2.2.1)
     have hkz := hk.1
     have hb4 : ((k : Int) ≤ (w.s.size : Int)) = True := eq_true (by omega)
     have hpd := prg_doc (nlL w.s)
     have hda := hpd.1
     refine AWp_exit ?_
     simp only [thenQ, blockQ, noGotoQ, bA, Nat.reduceEqDiff, ↓reduceIte]
     refine y2 _ ?_
     try clear y2 Y2
     refine AWp_seqK fun Y2 y2 => ?_
     refine AWp_seqK fun Y3 y3 => ?_
     refine AWp_region ?_
     refine aops_chunk 1 fun Q0 q0 => ?_
     simp only [↓bO, go_sem, seval, ActT.cells, hw0, hb1, hb2, List.map_append, List.length_append, hkl, hc, hex, hb4, hda]
     refine q0 _ ?_
     clear q0 Q0
     simp only [go_sem]
     simp only [↓bO, go_sem, seval, ActT.cells, hw0, hb1, hb2, List.map_append, List.length_append, hkl, hc, hex, hb4, hda]
     refine y3 _ ?_
     try clear y3 Y3
     refine AWp_cond rfl (fun hb27 => ?_) (fun hb27 => ?_)
     ·
      have hi2 : w.i = 200 := (by have h9 := hb27; simp at h9; omega)
      have hst := hw.long hz hi2
      refine AWp_seqK fun Y3 y3 => ?_
      refine AWp_region ?_
      iterate 3 (refine aops_chunk 1 fun Q0 q0 => ?_; simp only [↓bO, go_sem, seval, ActT.cells, hw0, hb1, hb2, List.map_append, List.length_append, hkl, hc, hex, hb4, hda]; refine q0 _ ?_; clear q0 Q0; simp only [go_sem])
      simp only [↓bO, go_sem, seval, ActT.cells, hw0, hb1, hb2, List.map_append, List.length_append, hkl, hc, hex, hb4, hda]
      refine y3 _ ?_
      try clear y3 Y3
      refine AWp_ret ?_
      try simp only [thenQ, blockQ, noGotoQ, retQ, aRes, tupOf, bS, bA]
      rw [hst]
      exact Le.tup ⟨Le.slNil 9, .refl _, .refl _, trivial⟩
     ·
      have hi2 : ¬ w.i = 200 := (by have h9 := hb27; simp at h9; omega)
      refine AWp_skip ?_
      try simp only [thenQ, blockQ, noGotoQ]
      refine y2 _ ?_
      try clear y2 Y2
      refine AWp_seqK fun Y2 y2 => ?_
      refine AWp_region ?_
      iterate 3 (refine aops_chunk 1 fun Q0 q0 => ?_; simp only [↓bO, go_sem, seval, ActT.cells, hw0, hb1, hb2, List.map_append, List.length_append, hkl, hc, hex, hb4, hda]; refine q0 _ ?_; clear q0 Q0; simp only [go_sem])
      refine aops_chunk 1 fun Q0 q0 => ?_
      simp only [↓bO, go_sem, seval, ActT.cells, hw0, hb1, hb2, List.map_append, List.length_append, hkl, hc, hex, hb4, hda]
      refine APure.call (RParse28_pure (nlL w.s) (by omega)) ?_
      try simp only [bS, bA, thenQ, blockQ, noGotoQ]
      refine q0 _ ?_
      clear q0 Q0
      simp only [go_sem]
      refine aops_chunk 1 fun Q0 q0 => ?_
      simp only [↓bO, go_sem, seval, ActT.cells, hw0, hb1, hb2, List.map_append, List.length_append, hkl, hc, hex, hb4, hda]
      iterate 2 (refine q0 _ ?_; clear q0 Q0; simp only [go_sem]; refine aops_chunk 1 fun Q0 q0 => ?_; simp only [↓bO, go_sem, seval, aExtract_tup, ActT.cells, hw0, hb1, hb2, List.map_append, List.length_append, hkl, hc, hex, hb4, hda])
      iterate 2 (refine q0 _ ?_; clear q0 Q0; simp only [go_sem]; refine aops_chunk 1 fun Q0 q0 => ?_; simp only [↓bO, go_sem, seval, ActT.cells, hw0, hb1, hb2, List.map_append, List.length_append, hkl, hc, hex, hb4, hda])
      refine q0 _ ?_
      clear q0 Q0
      simp only [go_sem]
      simp only [↓bO, go_sem, seval, ActT.cells, hw0, hb1, hb2, List.map_append, List.length_append, hkl, hc, hex, hb4, hda]
      refine y2 _ ?_
      try clear y2 Y2
      refine AWp_seqK fun Y2 y2 => ?_
      refine AWp_seqK fun Y3 y3 => ?_
      refine AWp_region ?_
      iterate 5 (refine aops_chunk 1 fun Q0 q0 => ?_; simp only [↓bO, go_sem, seval, ActT.cells, hw0, hb1, hb2, List.map_append, List.length_append, hkl, hc, hex, hb4, hda]; refine q0 _ ?_; clear q0 Q0; simp only [go_sem])
      refine aops_case 40 rfl (fun hc40 => ?_) (fun hc40 => ?_)
      ·
       simp only [List.set_cons_zero, List.set_cons_succ]
       have hke : k = w.s.size := (by have h9 := hc40; simp at h9; omega)
       have h9 : nlE w.s = false := by (rcases hP with h | h; exact h.2.1; omega)
       have hst := hw.bad hz hi2 (fun h => by rw [h9] at h; cases h.1)
       iterate 2 (refine aops_chunk 1 fun Q0 q0 => ?_; simp only [↓bO, go_sem, seval, ActT.cells, hw0, hb1, hb2, List.map_append, List.length_append, hkl, hc, hex, hb4, hda]; refine q0 _ ?_; clear q0 Q0; simp only [go_sem])
       simp only [↓bO, go_sem, seval, ActT.cells, hw0, hb1, hb2, List.map_append, List.length_append, hkl, hc, hex, hb4, hda]
       refine y3 _ ?_
       try clear y3 Y3
       refine AWp_cond (b := true) (by first | exact rfl | exact congrArg (fun b => AV.v (.bool b)) hb43) (fun _ => ?_) (fun h => (by cases h))
       refine AWp_seqK fun Y3 y3 => ?_
       refine AWp_region ?_
       iterate 3 (refine aops_chunk 1 fun Q0 q0 => ?_; simp only [↓bO, go_sem, seval, ActT.cells, hw0, hb1, hb2, List.map_append, List.length_append, hkl, hc, hex, hb4, hda]; refine q0 _ ?_; clear q0 Q0; simp only [go_sem])
       simp only [↓bO, go_sem, seval, ActT.cells, hw0, hb1, hb2, List.map_append, List.length_append, hkl, hc, hex, hb4, hda]
       refine y3 _ ?_
       try clear y3 Y3
       refine AWp_ret ?_
       try simp only [thenQ, blockQ, noGotoQ, retQ, aRes, tupOf, bS, bA]
       rw [hst]
       exact Le.tup ⟨Le.slNil 9, .refl _, .refl _, trivial⟩
      ·
       simp only [List.set_cons_zero, List.set_cons_succ]
       have hkl : k < w.s.size := (by have h9 := hc40; simp at h9; omega)
       have h9 : nlE w.s = true := by (rcases hP with h | h; omega; exact h.2.1)
       have hex2 : w.s.extract (k + 1) w.s.size = nlR w.s := by (rcases hP with h | h; omega; exact h.2.2.2)
       have hw1 : IntKind.i64.wrap ((k : Int) + 1) = ((k + 1 : Nat) : Int) := by (rw [wrap_in (by omega) (by omega)]; omega)
       have hb5 : (((k + 1 : Nat) : Int) ≤ (w.s.size : Int)) = True := eq_true (by omega)
       iterate 2 (refine aops_chunk 1 fun Q0 q0 => ?_; simp only [↓bO, go_sem, seval, ActT.cells, hw0, hb1, hb2, List.map_append, List.length_append, hkl, hc, hex, hb4, hda, hex2, hw1, hb5]; refine q0 _ ?_; clear q0 Q0; simp only [go_sem])
       simp only [↓bO, go_sem, seval, ActT.cells, hw0, hb1, hb2, List.map_append, List.length_append, hkl, hc, hex, hb4, hda, hex2, hw1, hb5]
       refine y3 _ ?_
       try clear y3 Y3
       refine AWp_cond rfl (fun hb43 => ?_) (fun hb43 => ?_)
       ·
        have hst : rdA s = ⟨[], w.i, 3⟩ := by (first | exact hst | exact hw.bad hz hi2 (fun h => by (have h7 := hb43; rw [hpd.2.2 h.2] at h7; simp at h7)))
        refine AWp_seqK fun Y3 y3 => ?_
        refine AWp_region ?_
        iterate 3 (refine aops_chunk 1 fun Q0 q0 => ?_; simp only [↓bO, go_sem, seval, ActT.cells, hw0, hb1, hb2, List.map_append, List.length_append, hkl, hc, hex, hb4, hda, hex2, hw1, hb5]; refine q0 _ ?_; clear q0 Q0; simp only [go_sem])
        simp only [↓bO, go_sem, seval, ActT.cells, hw0, hb1, hb2, List.map_append, List.length_append, hkl, hc, hex, hb4, hda, hex2, hw1, hb5]
        refine y3 _ ?_
        try clear y3 Y3
        refine AWp_ret ?_
        try simp only [thenQ, blockQ, noGotoQ, retQ, aRes, tupOf, bS, bA]
        rw [hst]
        exact Le.tup ⟨Le.slNil 9, .refl _, .refl _, trivial⟩
       ·
        have h8 : prgE (nlL w.s) = 0 := hpd.2.1 (by have h7 := hb43; simpa only [Bool.not_eq_false'] using h7)
        refine AWp_skip ?_
        try simp only [thenQ, blockQ, noGotoQ]
        refine y2 _ ?_
        try clear y2 Y2
        refine AWp_seqK fun Y2 y2 => ?_
        refine AWp_region ?_
        iterate 2 (refine aops_chunk 1 fun Q0 q0 => ?_; simp only [↓bO, go_sem, seval, ActT.cells, hw0, hb1, hb2, List.map_append, List.length_append, hkl, hc, hex, hb4, hda, hex2, hw1, hb5]; refine q0 _ ?_; clear q0 Q0; simp only [go_sem])
        refine aops_chunk 1 fun Q0 q0 => ?_
        simp only [↓bO, go_sem, seval, ↓bs1_1, ↓bs1_2, ↓bs1_3, ↓bs1_4, ↓bs1_5, ↓bs1_6, ↓bs1_7, ↓bs1_8, ↓bs1_9, ↓bs1_10, ↓bs1_11, ↓bs1_12, ActT.cells, hw0, hb1, hb2, List.map_append, List.length_append, hkl, hc, hex, hb4, hda, hex2, hw1, hb5]
        refine q0 _ ?_
        clear q0 Q0
        simp only [go_sem]
        refine aops_chunk 1 fun Q0 q0 => ?_
        simp only [↓bO, go_sem, seval, ActT.cells, hw0, hb1, hb2, List.map_append, List.length_append, hkl, hc, hex, hb4, hda, hex2, hw1, hb5]
        refine q0 _ ?_
        clear q0 Q0
        simp only [go_sem]
        simp only [↓bO, go_sem, seval, ActT.cells, hw0, hb1, hb2, List.map_append, List.length_append, hkl, hc, hex, hb4, hda, hex2, hw1, hb5]
        refine y2 _ ?_
        try clear y2 Y2
        refine AWp_region ?_
        iterate 4 (refine aops_chunk 1 fun Q0 q0 => ?_; simp only [↓bO, go_sem, seval, ActT.cells, hw0, hb1, hb2, List.map_append, List.length_append, hkl, hc, hex, hb4, hda, hex2, hw1, hb5]; refine q0 _ ?_; clear q0 Q0; simp only [go_sem])
        simp only [↓bO, go_sem, seval, ActT.cells, hw0, hb1, hb2, List.map_append, List.length_append, hkl, hc, hex, hb4, hda, hex2, hw1, hb5]
        refine y1 _ ?_
        try clear y1 Y1
        refine AWp_region ?_
        iterate 2 (refine aops_chunk 1 fun Q0 q0 => ?_; simp only [↓bO, go_sem, seval, ActT.cells, hw0, hb1, hb2, List.map_append, List.length_append, hkl, hc, hex, hb4, hda, hex2, hw1, hb5]; refine q0 _ ?_; clear q0 Q0; simp only [go_sem])
        simp only [↓bO, go_sem, seval, ActT.cells, hw0, hb1, hb2, List.map_append, List.length_append, hkl, hc, hex, hb4, hda, hex2, hw1, hb5]
        refine ⟨⟨w.n - 1, w.i + 1, nlR w.s, w.out ++ [prgA (nlL w.s)]⟩, hw.next hz hi2 h9 h8, (by have := (nl_size w.s).2.2 h9; simp only; omega), ?_⟩
        simp only [maskL, setsL, putsO, putO, mB, List.set_cons_zero, List.set_cons_succ, seval, hw0, hb1, hb2, List.map_append, bL, List.length_append, ActT.cells, hkl, hc, hex, hb4, hda, hex2, hw1, hb5]
        first | (refine Weak.drops 1 1 rfl rfl (by simp only; omega) (by simp only; omega) ?_ ?_ ?_) | (refine Weak.drops 0 1 rfl rfl (by simp only; omega) (by simp only; omega) ?_ ?_ ?_)
        · simp only [go_sem, Le.refl, Le.any, Int.natCast_add, Int.cast_ofNat_Int, Int.natCast_one]
        · simp only [UndL, UndOs, Ob.Und, and_true, true_and, and_self, Und.v, Und.any, Und.ptr, Und.map, Nat.reduceLT, Nat.zero_lt_succ, Und.tys, Und.tyAgg, Und.oslTys, Und.oslTys1, Und.clo0, Und.ty, undActs1]
        · simp only [UndL, UndOs, Ob.Und, and_true, true_and, and_self, Und.v, Und.any, Und.ptr, Und.map, Nat.reduceLT, Nat.zero_lt_succ, Und.tys, Und.tyAgg, Und.oslTys, Und.oslTys1, Und.clo0, Und.ty, undActs1]
   ·
    simp only [List.set_cons_zero, List.set_cons_succ]
    have hke : k = w.s.size := (by have h9 := hc18; simp at h9; omega)
    have hno := hk.no hke
    have hP : (k = w.s.size ∧ nlE w.s = false ∧ w.s.extract 0 k = nlL w.s) ∨ (k < w.s.size ∧ nlE w.s = true ∧ w.s.extract 0 k = nlL w.s ∧ w.s.extract (k + 1) w.s.size = nlR w.s) := .inl ⟨hke, hno⟩
    have hex : w.s.extract 0 k = nlL w.s := by (rcases hP with h | h; exact h.2.2; exact h.2.2.1)
    have hkz := hk.1
    have hb4 : ((k : Int) ≤ (w.s.size : Int)) = True := eq_true (by omega)
    have hpd := prg_doc (nlL w.s)
    have hda := hpd.1
    iterate 4 (refine aops_chunk 1 fun Q0 q0 => ?_; simp only [↓bO, go_sem, seval, ActT.cells, hw0, hb1, hb2, List.map_append, List.length_append, hex, hb4, hda]; refine q0 _ ?_; clear q0 Q0; simp only [go_sem])
    simp only [↓bO, go_sem, seval, ActT.cells, hw0, hb1, hb2, List.map_append, List.length_append, hex, hb4, hda]
    refine y4 _ ?_
    try clear y4 Y4
    refine AWp_cond (b := false) (by first | exact rfl | exact congrArg (fun b => AV.v (.bool b)) hb23) (fun h => (by cases h)) (fun _ => ?_)
    refine AWp_exit ?_
    simp only [thenQ, blockQ, noGotoQ, bA, Nat.reduceEqDiff, ↓reduceIte]
    refine y2 _ ?_
    try clear y2 Y2
    refine AWp_seqK fun Y2 y2 => ?_
    refine AWp_seqK fun Y3 y3 => ?_
    refine AWp_region ?_
    refine aops_chunk 1 fun Q0 q0 => ?_
    simp only [↓bO, go_sem, seval, ActT.cells, hw0, hb1, hb2, List.map_append, List.length_append, hex, hb4, hda]
    refine q0 _ ?_
    clear q0 Q0
    simp only [go_sem]
    simp only [↓bO, go_sem, seval, ActT.cells, hw0, hb1, hb2, List.map_append, List.length_append, hex, hb4, hda]
    refine y3 _ ?_
    try clear y3 Y3
    refine AWp_cond rfl (fun hb27 => ?_) (fun hb27 => ?_)
    ·
     have hi2 : w.i = 200 := (by have h9 := hb27; simp at h9; omega)
     have hst := hw.long hz hi2
     refine AWp_seqK fun Y3 y3 => ?_
     refine AWp_region ?_
     iterate 3 (refine aops_chunk 1 fun Q0 q0 => ?_; simp only [↓bO, go_sem, seval, ActT.cells, hw0, hb1, hb2, List.map_append, List.length_append, hex, hb4, hda]; refine q0 _ ?_; clear q0 Q0; simp only [go_sem])
     simp only [↓bO, go_sem, seval, ActT.cells, hw0, hb1, hb2, List.map_append, List.length_append, hex, hb4, hda]
     refine y3 _ ?_
     try clear y3 Y3
     refine AWp_ret ?_
     try simp only [thenQ, blockQ, noGotoQ, retQ, aRes, tupOf, bS, bA]
     rw [hst]
     exact Le.tup ⟨Le.slNil 9, .refl _, .refl _, trivial⟩
    ·
     have hi2 : ¬ w.i = 200 := (by have h9 := hb27; simp at h9; omega)
     refine AWp_skip ?_
     try simp only [thenQ, blockQ, noGotoQ]
     refine y2 _ ?_
     try clear y2 Y2
     refine AWp_seqK fun Y2 y2 => ?_
     refine AWp_region ?_
     iterate 3 (refine aops_chunk 1 fun Q0 q0 => ?_; simp only [↓bO, go_sem, seval, ActT.cells, hw0, hb1, hb2, List.map_append, List.length_append, hex, hb4, hda]; refine q0 _ ?_; clear q0 Q0; simp only [go_sem])
     refine aops_chunk 1 fun Q0 q0 => ?_
     simp only [↓bO, go_sem, seval, ActT.cells, hw0, hb1, hb2, List.map_append, List.length_append, hex, hb4, hda]
     refine APure.call (RParse28_pure (nlL w.s) (by omega)) ?_
     try simp only [bS, bA, thenQ, blockQ, noGotoQ]
     refine q0 _ ?_
     clear q0 Q0
     simp only [go_sem]
     refine aops_chunk 1 fun Q0 q0 => ?_
     simp only [↓bO, go_sem, seval, ActT.cells, hw0, hb1, hb2, List.map_append, List.length_append, hex, hb4, hda]
     iterate 2 (refine q0 _ ?_; clear q0 Q0; simp only [go_sem]; refine aops_chunk 1 fun Q0 q0 => ?_; simp only [↓bO, go_sem, seval, aExtract_tup, ActT.cells, hw0, hb1, hb2, List.map_append, List.length_append, hex, hb4, hda])
     iterate 2 (refine q0 _ ?_; clear q0 Q0; simp only [go_sem]; refine aops_chunk 1 fun Q0 q0 => ?_; simp only [↓bO, go_sem, seval, ActT.cells, hw0, hb1, hb2, List.map_append, List.length_append, hex, hb4, hda])
     refine q0 _ ?_
     clear q0 Q0
     simp only [go_sem]
     simp only [↓bO, go_sem, seval, ActT.cells, hw0, hb1, hb2, List.map_append, List.length_append, hex, hb4, hda]
     refine y2 _ ?_
     try clear y2 Y2
     refine AWp_seqK fun Y2 y2 => ?_
     refine AWp_seqK fun Y3 y3 => ?_
     refine AWp_region ?_
     iterate 5 (refine aops_chunk 1 fun Q0 q0 => ?_; simp only [↓bO, go_sem, seval, ActT.cells, hw0, hb1, hb2, List.map_append, List.length_append, hex, hb4, hda]; refine q0 _ ?_; clear q0 Q0; simp only [go_sem])
     refine aops_case 40 rfl (fun hc40 => ?_) (fun hc40 => ?_)
     ·
      simp only [List.set_cons_zero, List.set_cons_succ]
      have hke : k = w.s.size := (by have h9 := hc40; simp at h9; omega)
      have h9 : nlE w.s = false := by (rcases hP with h | h; exact h.2.1; omega)
      have hst := hw.bad hz hi2 (fun h => by rw [h9] at h; cases h.1)
      iterate 2 (refine aops_chunk 1 fun Q0 q0 => ?_; simp only [↓bO, go_sem, seval, ActT.cells, hw0, hb1, hb2, List.map_append, List.length_append, hex, hb4, hda]; refine q0 _ ?_; clear q0 Q0; simp only [go_sem])
      simp only [↓bO, go_sem, seval, ActT.cells, hw0, hb1, hb2, List.map_append, List.length_append, hex, hb4, hda]
      refine y3 _ ?_
      try clear y3 Y3
      refine AWp_cond (b := true) (by first | exact rfl | exact congrArg (fun b => AV.v (.bool b)) hb43) (fun _ => ?_) (fun h => (by cases h))
      refine AWp_seqK fun Y3 y3 => ?_
      refine AWp_region ?_
      iterate 3 (refine aops_chunk 1 fun Q0 q0 => ?_; simp only [↓bO, go_sem, seval, ActT.cells, hw0, hb1, hb2, List.map_append, List.length_append, hex, hb4, hda]; refine q0 _ ?_; clear q0 Q0; simp only [go_sem])
      simp only [↓bO, go_sem, seval, ActT.cells, hw0, hb1, hb2, List.map_append, List.length_append, hex, hb4, hda]
      refine y3 _ ?_
      try clear y3 Y3
      refine AWp_ret ?_
      try simp only [thenQ, blockQ, noGotoQ, retQ, aRes, tupOf, bS, bA]
      rw [hst]
      exact Le.tup ⟨Le.slNil 9, .refl _, .refl _, trivial⟩
     ·
      simp only [List.set_cons_zero, List.set_cons_succ]
      have hkl : k < w.s.size := (by have h9 := hc40; simp at h9; omega)
      have h9 : nlE w.s = true := by (rcases hP with h | h; omega; exact h.2.1)
      have hex2 : w.s.extract (k + 1) w.s.size = nlR w.s := by (rcases hP with h | h; omega; exact h.2.2.2)
      have hw1 : IntKind.i64.wrap ((k : Int) + 1) = ((k + 1 : Nat) : Int) := by (rw [wrap_in (by omega) (by omega)]; omega)
      have hb5 : (((k + 1 : Nat) : Int) ≤ (w.s.size : Int)) = True := eq_true (by omega)
      iterate 2 (refine aops_chunk 1 fun Q0 q0 => ?_; simp only [↓bO, go_sem, seval, ActT.cells, hw0, hb1, hb2, List.map_append, List.length_append, hex, hb4, hda, hex2, hw1, hb5]; refine q0 _ ?_; clear q0 Q0; simp only [go_sem])
      simp only [↓bO, go_sem, seval, ActT.cells, hw0, hb1, hb2, List.map_append, List.length_append, hex, hb4, hda, hex2, hw1, hb5]
      refine y3 _ ?_
      try clear y3 Y3
      refine AWp_cond rfl (fun hb43 => ?_) (fun hb43 => ?_)
      ·
       have hst : rdA s = ⟨[], w.i, 3⟩ := by (first | exact hst | exact hw.bad hz hi2 (fun h => by (have h7 := hb43; rw [hpd.2.2 h.2] at h7; simp at h7)))
       refine AWp_seqK fun Y3 y3 => ?_
       refine AWp_region ?_
       iterate 3 (refine aops_chunk 1 fun Q0 q0 => ?_; simp only [↓bO, go_sem, seval, ActT.cells, hw0, hb1, hb2, List.map_append, List.length_append, hex, hb4, hda, hex2, hw1, hb5]; refine q0 _ ?_; clear q0 Q0; simp only [go_sem])
       simp only [↓bO, go_sem, seval, ActT.cells, hw0, hb1, hb2, List.map_append, List.length_append, hex, hb4, hda, hex2, hw1, hb5]
       refine y3 _ ?_
       try clear y3 Y3
       refine AWp_ret ?_
       try simp only [thenQ, blockQ, noGotoQ, retQ, aRes, tupOf, bS, bA]
       rw [hst]
       exact Le.tup ⟨Le.slNil 9, .refl _, .refl _, trivial⟩
      ·
       have h8 : prgE (nlL w.s) = 0 := hpd.2.1 (by have h7 := hb43; simpa only [Bool.not_eq_false'] using h7)
       refine AWp_skip ?_
       try simp only [thenQ, blockQ, noGotoQ]
       refine y2 _ ?_
       try clear y2 Y2
       refine AWp_seqK fun Y2 y2 => ?_
       refine AWp_region ?_
       iterate 2 (refine aops_chunk 1 fun Q0 q0 => ?_; simp only [↓bO, go_sem, seval, ActT.cells, hw0, hb1, hb2, List.map_append, List.length_append, hex, hb4, hda, hex2, hw1, hb5]; refine q0 _ ?_; clear q0 Q0; simp only [go_sem])
       refine aops_chunk 1 fun Q0 q0 => ?_
       simp only [↓bO, go_sem, seval, ↓bs1_1, ↓bs1_2, ↓bs1_3, ↓bs1_4, ↓bs1_5, ↓bs1_6, ↓bs1_7, ↓bs1_8, ↓bs1_9, ↓bs1_10, ↓bs1_11, ↓bs1_12, ActT.cells, hw0, hb1, hb2, List.map_append, List.length_append, hex, hb4, hda, hex2, hw1, hb5]
       refine q0 _ ?_
       clear q0 Q0
       simp only [go_sem]
       refine aops_chunk 1 fun Q0 q0 => ?_
       simp only [↓bO, go_sem, seval, ActT.cells, hw0, hb1, hb2, List.map_append, List.length_append, hex, hb4, hda, hex2, hw1, hb5]
       refine q0 _ ?_
       clear q0 Q0
       simp only [go_sem]
       simp only [↓bO, go_sem, seval, ActT.cells, hw0, hb1, hb2, List.map_append, List.length_append, hex, hb4, hda, hex2, hw1, hb5]
       refine y2 _ ?_
       try clear y2 Y2
       refine AWp_region ?_
       iterate 4 (refine aops_chunk 1 fun Q0 q0 => ?_; simp only [↓bO, go_sem, seval, ActT.cells, hw0, hb1, hb2, List.map_append, List.length_append, hex, hb4, hda, hex2, hw1, hb5]; refine q0 _ ?_; clear q0 Q0; simp only [go_sem])
       simp only [↓bO, go_sem, seval, ActT.cells, hw0, hb1, hb2, List.map_append, List.length_append, hex, hb4, hda, hex2, hw1, hb5]
       refine y1 _ ?_
       try clear y1 Y1
       refine AWp_region ?_
       iterate 2 (refine aops_chunk 1 fun Q0 q0 => ?_; simp only [↓bO, go_sem, seval, ActT.cells, hw0, hb1, hb2, List.map_append, List.length_append, hex, hb4, hda, hex2, hw1, hb5]; refine q0 _ ?_; clear q0 Q0; simp only [go_sem])
       simp only [↓bO, go_sem, seval, ActT.cells, hw0, hb1, hb2, List.map_append, List.length_append, hex, hb4, hda, hex2, hw1, hb5]
       refine ⟨⟨w.n - 1, w.i + 1, nlR w.s, w.out ++ [prgA (nlL w.s)]⟩, hw.next hz hi2 h9 h8, (by have := (nl_size w.s).2.2 h9; simp only; omega), ?_⟩
       simp only [maskL, setsL, putsO, putO, mB, List.set_cons_zero, List.set_cons_succ, seval, hw0, hb1, hb2, List.map_append, bL, List.length_append, ActT.cells, hex, hb4, hda, hex2, hw1, hb5]
       first | (refine Weak.drops 1 1 rfl rfl (by simp only; omega) (by simp only; omega) ?_ ?_ ?_) | (refine Weak.drops 0 1 rfl rfl (by simp only; omega) (by simp only; omega) ?_ ?_ ?_)
       · simp only [go_sem, Le.refl, Le.any, Int.natCast_add, Int.cast_ofNat_Int, Int.natCast_one]
       · simp only [UndL, UndOs, Ob.Und, and_true, true_and, and_self, Und.v, Und.any, Und.ptr, Und.map, Nat.reduceLT, Nat.zero_lt_succ, Und.tys, Und.tyAgg, Und.oslTys, Und.oslTys1, Und.clo0, Und.ty, undActs1]
       · simp only [UndL, UndOs, Ob.Und, and_true, true_and, and_self, Und.v, Und.any, Und.ptr, Und.map, Nat.reduceLT, Nat.zero_lt_succ, Und.tys, Und.tyAgg, Und.oslTys, Und.oslTys1, Und.clo0, Und.ty, undActs1]
  ·
   have hz : w.s.size = 0 := str_eq0 hb11
   have hst := hw.stop hz
   refine AWp_exit ?_
   simp only [thenQ, blockQ, noGotoQ, bA, Nat.reduceEqDiff, ↓reduceIte]
   refine y0 _ ?_
   try clear y0 Y0
   refine AWp_seqK fun Y0 y0 => ?_
   refine AWp_region ?_
   iterate 3 (refine aops_chunk 1 fun Q0 q0 => ?_; simp only [↓bO, go_sem, seval, ActT.cells]; refine q0 _ ?_; clear q0 Q0; simp only [go_sem])
   simp only [↓bO, go_sem, seval, ActT.cells]
   refine y0 _ ?_
   try clear y0 Y0
   refine AWp_ret ?_
   try simp only [thenQ, blockQ, noGotoQ, retQ, aRes, tupOf, bS, bA]
   rw [hst]
   exact Le.tup ⟨Le.osl _ _ _, .refl _, .refl _, trivial⟩
theorem joinW_no : ∀ {b : UInt8} {ws : List (List UInt8)}, b ≠ 32 → (∀ w ∈ ws, ∀ c ∈ w, c ≠ b) → ∀ c ∈ joinW ws, c ≠ b
  | _, [], _, _, c, hc => by cases hc
  | _, [w], _, h, c, hc => h w (List.mem_cons_self ..) c hc
  | b, w :: v :: r, hb, h, c, hc => by
    simp only [joinW, List.mem_append, List.mem_cons] at hc
    rcases hc with hc | rfl | hc
    · exact h w (List.mem_cons_self ..) c hc
    · exact fun e => hb e.symm
    · exact joinW_no hb (fun x hx => h x (List.mem_cons_of_mem _ hx)) c hc
theorem in_no10 {c : UInt8} (h : inI (c.toNat : Int) = true) : c ≠ 10 := fun e => by
  subst e
  exact absurd h (by decide)
theorem name_no10 {s : ByteArray} (h : nameB s = true) : ∀ c ∈ tb s, c ≠ 10 := by
  unfold nameB at h
  simp only [Bool.and_eq_true, decide_eq_true_eq] at h
  have h3 : runN s 0 inI = s.size := h.1.1.2
  unfold runN at h3
  intro c hc
  have hl : ((tb s).takeWhile fun b => inI (b.toNat : Int)).length = (tb s).length := by rw [tb_len]; exact h3
  have he : (tb s).takeWhile (fun b => inI (b.toNat : Int)) = tb s := (List.takeWhile_prefix _).eq_of_length hl
  have hm : c ∈ (tb s).takeWhile fun b => inI (b.toNat : Int) := by rw [he]; exact hc
  have h9 : ∀ (l : List UInt8), c ∈ l.takeWhile (fun b => inI (b.toNat : Int)) → inI (c.toNat : Int) = true := by
    intro l
    induction l with
    | nil => intro h; cases h
    | cons x l ih =>
      intro h
      rw [List.takeWhile_cons] at h
      split at h
      · rename_i hx
        rcases List.mem_cons.1 h with rfl | h
        · exact hx
        · exact ih h
      · cases h
  exact in_no10 (h9 _ hm)
theorem itoa_no10 (n : Int) : ∀ c ∈ Lib.itoa n, c ≠ 10 := by
  have h1 : ∀ c : UInt8, 48 ≤ c.toNat → c ≠ 10 := fun c hc e => by rw [e] at hc; exact absurd hc (by decide)
  by_cases h : n < 0
  · obtain ⟨m, rfl⟩ : ∃ m : Nat, n = -(m : Int) := ⟨(-n).toNat, by omega⟩
    rw [Lib.itoa_neg m (by omega)]
    intro c hc
    rcases List.mem_cons.1 hc with rfl | hc
    · decide
    · exact h1 c (tdec_digs m c hc).1
  · obtain ⟨m, rfl⟩ : ∃ m : Nat, n = (m : Int) := ⟨n.toNat, by omega⟩
    rw [Lib.itoa_nonneg m]
    intro c hc
    exact h1 c (tdec_digs m c hc).1
theorem hx_no10 : ∀ n, n < 16 → hx n ≠ 10 := by decide
theorem quL_no10 (l : List UInt8) : ∀ c ∈ quL l, c ≠ 10 := by
  intro c hc
  unfold quL at hc
  simp only [List.mem_cons, List.mem_append, List.mem_flatMap, List.not_mem_nil, or_false] at hc
  rcases hc with rfl | ⟨x, _, hx⟩ | rfl
  · decide
  · have hlt := x.toNat_lt
    unfold qb at hx
    split at hx
    · rename_i hp
      have hx : c = x := by simpa using hx
      subst hx
      unfold plainB at hp
      simp only [Bool.and_eq_true, decide_eq_true_eq] at hp
      intro e; rw [e] at hp; exact absurd hp.1.1.1 (by decide)
    · simp only [List.mem_cons, List.not_mem_nil, or_false] at hx
      rcases hx with rfl | rfl | rfl
      · decide
      · exact hx_no10 _ (by omega)
      · exact hx_no10 _ (by omega)
  · decide
theorem wd_no10 (k : Int) : ∀ c ∈ tb (wdS k), c ≠ 10 := by
  unfold wdS
  repeat' split
  all_goals decide
theorem text_no10 {a : ActT} (h0 : a.err = 0) : ∀ c ∈ tb a.text', c ≠ 10 := by
  obtain ⟨hk, h1, _, _⟩ := ActT.ok_of h0
  have hq := quL_no10 (tb a.text)
  have hi := itoa_no10
  show ∀ c ∈ joinW a.ws, c ≠ 10
  refine joinW_no (by decide) fun w hw => ?_
  unfold ActT.ws at hw
  have hn : ∀ (h1a : 1 ≤ a.k) (h2a : a.k ≤ 5), ∀ c ∈ tb a.name, c ≠ 10 := fun h1a h2a => name_no10 (name_of h1 h1a h2a)
  rcases kinds hk with h | h | h | h | h | h | h <;> simp only [h, Int.reduceEq, ↓reduceIte, List.mem_cons, List.not_mem_nil, or_false] at hw
  · rcases hw with rfl | rfl | rfl
    · exact wd_no10 1
    · exact hn (by omega) (by omega)
    · exact hq
  · rcases hw with rfl | rfl | rfl | rfl | rfl
    · exact wd_no10 2
    · exact hn (by omega) (by omega)
    · exact hi _
    · exact hi _
    · exact hq
  · rcases hw with rfl | rfl
    · exact wd_no10 3
    · exact hn (by omega) (by omega)
  · rcases hw with rfl | rfl
    · exact wd_no10 4
    · exact hn (by omega) (by omega)
  · rcases hw with rfl | rfl | rfl
    · exact wd_no10 5
    · exact hn (by omega) (by omega)
    · exact hi _
  · rcases hw with rfl | rfl | rfl | rfl
    · exact wd_no10 6
    · exact hi _
    · exact hi _
    · exact hi _
  · rw [hw]; exact wd_no10 7
theorem catL_tb (l : List ActT) : tb (catL l) = l.flatMap fun a => tb a.text' ++ [10] := by
  have key : ∀ (l : List ActT) (b : ByteArray), tb (l.foldl (fun b a => (b ++ a.text') ++ ⟨#[10]⟩) b) = tb b ++ l.flatMap fun a => tb a.text' ++ [10] := by
    intro l
    induction l with
    | nil => intro b; simp
    | cons a l ih =>
      intro b
      rw [List.foldl_cons, ih, tb_app, tb_app, List.flatMap_cons]
      simp [tb]
  have := key l ByteArray.empty
  simpa [catL, tb] using this
theorem catL_cons (a : ActT) (l : List ActT) : catL (a :: l) = ofL (tb a.text' ++ 10 :: tb (catL l)) := by
  apply tb_inj
  rw [tb_ofL, catL_tb, catL_tb, List.flatMap_cons]; simp
theorem nl_at {x r : List UInt8} (h : ∀ c ∈ x, c ≠ 10) : nlL (ofL (x ++ 10 :: r)) = ofL x ∧ nlR (ofL (x ++ 10 :: r)) = ofL r ∧ nlE (ofL (x ++ 10 :: r)) = true := by
  unfold nlL nlR nlE
  rw [tb_ofL, cut1_at h]
  exact ⟨rfl, rfl, rfl⟩
def okAll (l : List ActT) : Prop := ∀ a ∈ l, a.fits ∧ a.err = 0
theorem rd_cat : ∀ (l : List ActT) (n i : Nat) (out : List ActT), okAll l → (catL l).size < n → i + l.length ≤ 200 → rdF n i (catL l) out = ⟨out ++ l, 0, 0⟩
  | l, 0, i, out, h, hn, hi => by omega
  | [], n + 1, i, out, h, hn, hi => by
    rw [rdF, if_pos (show (catL []).size = 0 from rfl), List.append_nil]
  | a :: l, n + 1, i, out, h, hn, hi => by
    obtain ⟨hf, h0⟩ := h a (List.mem_cons_self ..)
    have hp := catL_pos (l := a :: l) (by simp)
    obtain ⟨e1, e2, e3⟩ := nl_at (x := tb a.text') (r := tb (catL l)) (text_no10 h0)
    rw [← catL_cons, ofL_tb] at e1 e2
    rw [← catL_cons] at e3
    have hy := prg_yes (s := a.text') ⟨hf, h0, rfl⟩
    have hs := (nl_size (catL (a :: l))).2.2 e3
    rw [e2] at hs
    simp only [List.length_cons] at hi
    rw [rdF, if_neg (by omega), if_neg (by omega), e1, e2, hy.1, hy.2, if_pos ⟨e3, rfl⟩, rd_cat l n (i + 1) (out ++ [a]) (fun x hx => h x (List.mem_cons_of_mem _ hx)) (by omega) (by omega), List.append_assoc]
    rfl
theorem rd_all {l : List ActT} (h : okAll l) (hl : l.length ≤ 200) : rdA (catL l) = ⟨l, 0, 0⟩ := by
  unfold rdA
  rw [rd_cat l _ 0 [] h (Nat.lt_succ_self _) (by omega)]; rfl
theorem rd_ok : ∀ (n i : Nat) (s : ByteArray) (out : List ActT), s.size < n → i ≤ 200 → (rdF n i s out).e = 0 → ∃ l, (rdF n i s out).l = out ++ l ∧ catL l = s ∧ okAll l ∧ i + l.length ≤ 200
  | 0, i, s, out, h, hi, he => by omega
  | n + 1, i, s, out, h, hi, he => by
    rw [rdF] at he ⊢
    by_cases hz : s.size = 0
    · rw [if_pos hz]
      refine ⟨[], by simp, ?_, (fun a ha => nomatch ha), by simpa using hi⟩
      exact (size0.1 hz).symm
    · rw [if_neg hz] at he ⊢
      by_cases h2 : i = 200
      · rw [if_pos h2] at he; cases he
      · rw [if_neg h2] at he ⊢
        by_cases hc : nlE s = true ∧ prgE (nlL s) = 0
        · rw [if_pos hc] at he ⊢
          have hs := (nl_size s).2.2 hc.1
          obtain ⟨l, h3, h4, h5, h6⟩ := rd_ok n (i + 1) (nlR s) (out ++ [prgA (nlL s)]) (by omega) (by omega) he
          have hil : IsLine (nlL s) (prgA (nlL s)) := by
            rcases parse_alike (nlL s) with ⟨a, ha, h7, _⟩ | ⟨_, _, h7, _⟩
            · rw [h7]; exact ha
            · rw [hc.2] at h7; cases h7
          refine ⟨prgA (nlL s) :: l, by rw [h3]; simp, ?_, fun a ha => ?_, by simp only [List.length_cons]; omega⟩
          · rw [catL_cons, hil.2.2, h4]
            have hx := hc.1
            unfold nlE at hx
            unfold nlL nlR
            apply tb_inj
            rw [tb_ofL, tb_ofL, tb_ofL]
            rcases cut1_or 10 (tb s) with h9 | ⟨x, r, h9, h8⟩
            · rw [cut1_no h9] at hx; cases hx
            · rw [h9, cut1_at h8]
          · rcases List.mem_cons.1 ha with rfl | ha
            · exact ⟨hil.1, hil.2.1⟩
            · exact h5 a ha
        · rw [if_neg hc] at he; cases he
theorem rd_len : ∀ (n i : Nat) (s : ByteArray) (out : List ActT), out.length = i → i ≤ 200 → s.size < n → (rdF n i s out).l.length ≤ 200
  | 0, i, s, out, h, hi, hn => by omega
  | n + 1, i, s, out, h, hi, hn => by
    rw [rdF]
    split
    · simp only; omega
    · split
      · simp
      · split
        · rename_i hc
          have hs := (nl_size s).2.2 hc.1
          exact rd_len n (i + 1) (nlR s) _ (by simp [h]) (by omega) (by omega)
        · simp
theorem catL_take {l : List ActT} (k : Nat) : (catL (l.take k)).size ≤ (catL l).size := by
  have h1 := catL_tb l
  have h2 := catL_tb (l.take k)
  have h3 : l = l.take k ++ l.drop k := (List.take_append_drop _ _).symm
  have h4 : tb (catL l) = tb (catL (l.take k)) ++ (l.drop k).flatMap fun a => tb a.text' ++ [10] := by
    rw [h1, h2]
    conv => lhs; rw [h3]
    rw [List.flatMap_append]
  have h5 := congrArg List.length h4
  rw [List.length_append, tb_len, tb_len] at h5
  omega
theorem okAll.wide {l : List ActT} (h : okAll l) : ∀ a ∈ l, a.fits ∧ a.name.size ≤ 9223372036854775807 ∧ a.text.size ≤ 9223372036854775807 := fun a ha => by
  obtain ⟨h1, h2⟩ := h a ha
  have h3 := ActT.ok_of h2
  have h4 := ActT.name20e h3.2.1
  exact ⟨h1, by omega, by omega⟩
theorem catL_bnd {l : List ActT} (hf : ∀ a ∈ l, a.fits) : ∀ k, k ≤ l.length → okTo l k → (catL (l.take k)).size ≤ k * 13001
  | 0, _, _ => by simp [catL]
  | k + 1, hk, h => by
    obtain ⟨a, ha⟩ : ∃ a, l[k]? = some a := ⟨_, List.getElem?_eq_getElem (by omega)⟩
    have h1 := catL_bnd hf k (by omega) fun j b hj hb => h j b (by omega) hb
    have h2 := text_size (hf a (List.mem_of_getElem? ha)) (h k a (Nat.lt_succ_self _) ha)
    rw [catL_step ha, size_add, size_add]
    have : (⟨#[10]⟩ : ByteArray).size = 1 := rfl
    omega
theorem wrA_eq (l : List ActT) : wrA l = .tup [.v (.string (wrT l)), .v (.int .i64 (wrN l)), .v (.int .i64 (wrE l))] := rfl
theorem Met.actsLen {l : List ActT} (h : Met [.sl 9 (l.map ActT.cells)]) : l.length ≤ 9223372036854775807 := by
  obtain ⟨E, A, w, hr⟩ := h.at
  obtain ⟨v, hv⟩ := hr _ (List.mem_cons_self ..)
  have := hv.slLen
  rw [List.length_map, maxLen_eq] at this
  exact this
theorem okAll_of {l : List ActT} (hf : ∀ a ∈ l, a.fits) (h : okTo l l.length) : okAll l := fun a ha => by
  obtain ⟨i, hi, rfl⟩ := List.mem_iff_getElem.1 ha
  exact ⟨hf _ ha, h i _ hi (List.getElem?_eq_getElem hi)⟩
theorem TapeReads_pure (s : ByteArray) : APure Tryd.prog 7 [.v (.string s)] (.v (.bool true)) := by
  refine APure.mkL (.cons (.v _) .nil) (.v _) ?_
  refine ACalls_intro Tryd.func7 (by kernel_rfl) rfl (by rw [Tryd.ntmps7]; simp) (fun hm => ?_)
  simp only [Tryd.ntmps7, Tryd.results7, List.length_cons, List.length_nil, Nat.reduceAdd, Nat.reduceSub, List.replicate_succ, List.replicate_zero, List.cons_append, List.nil_append]
  refine AWp_seqK fun Y0 y0 => ?_
  refine AWp_region ?_
  simp only [↓bO, go_sem, seval, beq_self_eq_true]
  refine y0 _ ?_
  try clear y0 Y0
  refine AWp_seqK fun Y0 y0 => ?_
  refine AWp_seqK fun Y1 y1 => ?_
  refine AWp_region ?_
  iterate 2 (refine aops_chunk 1 fun Q0 q0 => ?_; simp only [↓bO, go_sem, seval, beq_self_eq_true]; refine q0 _ ?_; clear q0 Q0; simp only [go_sem])
  simp only [↓bO, go_sem, seval, beq_self_eq_true]
  refine y1 _ ?_
  try clear y1 Y1
  refine AWp_cond rfl (fun hb14 => ?_) (fun hb14 => ?_)
  ·
   refine AWp_seqK fun Y1 y1 => ?_
   refine AWp_region ?_
   refine aops_chunk 1 fun Q0 q0 => ?_
   simp only [↓bO, go_sem, seval, beq_self_eq_true]
   refine APure.call (awake28_pure) ?_
   try simp only [bS, bA, thenQ, blockQ, noGotoQ]
   refine q0 _ ?_
   clear q0 Q0
   simp only [go_sem]
   simp only [↓bO, go_sem, seval, beq_self_eq_true]
   refine y1 _ ?_
   try clear y1 Y1
   refine AWp_ret ?_
   try simp only [thenQ, blockQ, noGotoQ, retQ, aRes, tupOf, bS, bA]
   exact Le.refl _
  ·
   have hs : s.size ≤ 1000 := (by have h9 := hb14; simp at h9; omega)
   have hrl : (rdA s).l.length ≤ 200 := rd_len (s.size + 1) 0 s [] rfl (by omega) (Nat.lt_succ_self _)
   have hsm : actsB (rdA s).l (rdA s).l = true := decide_eq_true rfl
   refine AWp_skip ?_
   try simp only [thenQ, blockQ, noGotoQ]
   refine y0 _ ?_
   try clear y0 Y0
   refine AWp_seqK fun Y0 y0 => ?_
   refine AWp_region ?_
   refine aops_chunk 1 fun Q0 q0 => ?_
   simp only [↓bO, go_sem, seval, beq_self_eq_true, hsm]
   refine q0 _ ?_
   clear q0 Q0
   simp only [go_sem]
   refine aops_chunk 1 fun Q0 q0 => ?_
   simp only [↓bO, go_sem, seval, beq_self_eq_true, hsm]
   refine APure.call (Read_pure s (by omega)) ?_
   try simp only [bS, bA, thenQ, blockQ, noGotoQ]
   refine q0 _ ?_
   clear q0 Q0
   simp only [go_sem]
   refine aops_chunk 1 fun Q0 q0 => ?_
   simp only [↓bO, go_sem, seval, beq_self_eq_true, hsm]
   iterate 3 (refine q0 _ ?_; clear q0 Q0; simp only [go_sem]; refine aops_chunk 1 fun Q0 q0 => ?_; simp only [↓bO, go_sem, seval, aExtract_tup, beq_self_eq_true, hsm])
   iterate 2 (refine q0 _ ?_; clear q0 Q0; simp only [go_sem]; refine aops_chunk 1 fun Q0 q0 => ?_; simp only [↓bO, go_sem, seval, beq_self_eq_true, hsm])
   refine q0 _ ?_
   clear q0 Q0
   simp only [go_sem]
   simp only [↓bO, go_sem, seval, beq_self_eq_true, hsm]
   refine y0 _ ?_
   try clear y0 Y0
   refine AWp_seqK fun Y0 y0 => ?_
   refine AWp_region ?_
   refine aops_chunk 1 fun Q0 q0 => ?_
   simp only [↓bO, go_sem, seval, beq_self_eq_true, hsm]
   refine q0 _ ?_
   clear q0 Q0
   simp only [go_sem]
   refine aops_chunk 1 fun Q0 q0 => ?_
   simp only [↓bO, go_sem, seval, beq_self_eq_true, hsm]
   refine APure.call (RRead_pure s (by omega)) ?_
   try simp only [bS, bA, thenQ, blockQ, noGotoQ]
   refine q0 _ ?_
   clear q0 Q0
   simp only [go_sem]
   refine aops_chunk 1 fun Q0 q0 => ?_
   simp only [↓bO, go_sem, seval, beq_self_eq_true, hsm]
   iterate 3 (refine q0 _ ?_; clear q0 Q0; simp only [go_sem]; refine aops_chunk 1 fun Q0 q0 => ?_; simp only [↓bO, go_sem, seval, aExtract_tup, beq_self_eq_true, hsm])
   iterate 2 (refine q0 _ ?_; clear q0 Q0; simp only [go_sem]; refine aops_chunk 1 fun Q0 q0 => ?_; simp only [↓bO, go_sem, seval, beq_self_eq_true, hsm])
   refine q0 _ ?_
   clear q0 Q0
   simp only [go_sem]
   simp only [↓bO, go_sem, seval, beq_self_eq_true, hsm]
   refine y0 _ ?_
   try clear y0 Y0
   refine AWp_seqK fun Y0 y0 => ?_
   refine AWp_seqK fun Y1 y1 => ?_
   refine AWp_region ?_
   iterate 4 (refine aops_chunk 1 fun Q0 q0 => ?_; simp only [↓bO, go_sem, seval, beq_self_eq_true, hsm]; refine q0 _ ?_; clear q0 Q0; simp only [go_sem])
   refine aops_case 31 rfl (fun hc31 => ?_) (fun hc31 => ?_)
   ·
    simp only [List.set_cons_zero, List.set_cons_succ]
    exact absurd hc31 (by simp)
   ·
    simp only [List.set_cons_zero, List.set_cons_succ]
    iterate 5 (refine aops_chunk 1 fun Q0 q0 => ?_; simp only [↓bO, go_sem, seval, beq_self_eq_true, hsm]; refine q0 _ ?_; clear q0 Q0; simp only [go_sem])
    refine aops_case 36 rfl (fun hc36 => ?_) (fun hc36 => ?_)
    ·
     simp only [List.set_cons_zero, List.set_cons_succ]
     exact absurd hc36 (by simp)
    ·
     simp only [List.set_cons_zero, List.set_cons_succ]
     iterate 2 (refine aops_chunk 1 fun Q0 q0 => ?_; simp only [↓bO, go_sem, seval, beq_self_eq_true, hsm]; refine q0 _ ?_; clear q0 Q0; simp only [go_sem])
     refine aops_chunk 1 fun Q0 q0 => ?_
     simp only [↓bO, go_sem, seval, beq_self_eq_true, hsm]
     refine APure.call (same28_pure (rdA s).l (rdA s).l (by omega) (by omega)) ?_
     try simp only [bS, bA, thenQ, blockQ, noGotoQ]
     refine q0 _ ?_
     clear q0 Q0
     simp only [go_sem]
     refine aops_chunk 1 fun Q0 q0 => ?_
     simp only [↓bO, go_sem, seval, beq_self_eq_true, hsm]
     refine q0 _ ?_
     clear q0 Q0
     simp only [go_sem]
     simp only [↓bO, go_sem, seval, beq_self_eq_true, hsm]
     refine y1 _ ?_
     try clear y1 Y1
     refine AWp_cond rfl (fun hb41 => ?_) (fun hb41 => ?_)
     ·
      exact absurd hb41 (by simp)
     ·
      refine AWp_skip ?_
      try simp only [thenQ, blockQ, noGotoQ]
      refine y0 _ ?_
      try clear y0 Y0
      refine AWp_seqK fun Y0 y0 => ?_
      refine AWp_seqK fun Y1 y1 => ?_
      refine AWp_region ?_
      refine aops_chunk 1 fun Q0 q0 => ?_
      simp only [↓bO, go_sem, seval, beq_self_eq_true, hsm]
      refine q0 _ ?_
      clear q0 Q0
      simp only [go_sem]
      simp only [↓bO, go_sem, seval, beq_self_eq_true, hsm]
      refine y1 _ ?_
      try clear y1 Y1
      refine AWp_cond rfl (fun hb43 => ?_) (fun hb43 => ?_)
      ·
       refine AWp_seqK fun Y1 y1 => ?_
       refine AWp_region ?_
       refine aops_chunk 1 fun Q0 q0 => ?_
       simp only [↓bO, go_sem, seval, beq_self_eq_true, hsm]
       refine APure.call (awake28_pure) ?_
       try simp only [bS, bA, thenQ, blockQ, noGotoQ]
       refine q0 _ ?_
       clear q0 Q0
       simp only [go_sem]
       simp only [↓bO, go_sem, seval, beq_self_eq_true, hsm]
       refine y1 _ ?_
       try clear y1 Y1
       refine AWp_ret ?_
       try simp only [thenQ, blockQ, noGotoQ, retQ, aRes, tupOf, bS, bA]
       exact Le.refl _
      ·
       have he : (rdA s).e = 0 := (by have h9 := hb43; simpa using h9)
       obtain ⟨l, hl1, hl2, hl3, hl4⟩ := rd_ok (s.size + 1) 0 s [] (Nat.lt_succ_self _) (by omega) he
       have hl1 : (rdA s).l = l := hl1
       have hin : ActsIn (rdA s).l := by (rw [hl1]; exact ⟨hl3.wide, fun k _ _ => (by have := catL_take (l := l) k; rw [hl2] at this; omega)⟩)
       have hwr : wrA (rdA s).l = .tup [.v (.string s), .v (.int .i64 0), .v (.int .i64 0)] := by (rw [hl1, wrA_ok (by omega) (badAt_none fun j a hj ha => (hl3 a (List.mem_of_getElem? ha)).2), hl2])
       refine AWp_skip ?_
       try simp only [thenQ, blockQ, noGotoQ]
       refine y0 _ ?_
       try clear y0 Y0
       refine AWp_seqK fun Y0 y0 => ?_
       refine AWp_region ?_
       refine aops_chunk 1 fun Q0 q0 => ?_
       simp only [↓bO, go_sem, seval, beq_self_eq_true, hsm, hwr]
       refine q0 _ ?_
       clear q0 Q0
       simp only [go_sem]
       refine aops_chunk 1 fun Q0 q0 => ?_
       simp only [↓bO, go_sem, seval, beq_self_eq_true, hsm, hwr]
       refine APure.call (Write_pure (rdA s).l hin (by omega)) ?_
       try simp only [bS, bA, thenQ, blockQ, noGotoQ]
       refine q0 _ ?_
       clear q0 Q0
       simp only [go_sem]
       refine aops_chunk 1 fun Q0 q0 => ?_
       simp only [↓bO, go_sem, seval, beq_self_eq_true, hsm, hwr]
       iterate 3 (refine q0 _ ?_; clear q0 Q0; simp only [go_sem]; refine aops_chunk 1 fun Q0 q0 => ?_; simp only [↓bO, go_sem, seval, aExtract_tup, beq_self_eq_true, hsm, hwr])
       iterate 2 (refine q0 _ ?_; clear q0 Q0; simp only [go_sem]; refine aops_chunk 1 fun Q0 q0 => ?_; simp only [↓bO, go_sem, seval, beq_self_eq_true, hsm, hwr])
       refine q0 _ ?_
       clear q0 Q0
       simp only [go_sem]
       simp only [↓bO, go_sem, seval, beq_self_eq_true, hsm, hwr]
       refine y0 _ ?_
       try clear y0 Y0
       refine AWp_seqK fun Y0 y0 => ?_
       refine AWp_region ?_
       iterate 3 (refine aops_chunk 1 fun Q0 q0 => ?_; simp only [↓bO, go_sem, seval, beq_self_eq_true, hsm, hwr]; refine q0 _ ?_; clear q0 Q0; simp only [go_sem])
       refine aops_case 53 rfl (fun hc53 => ?_) (fun hc53 => ?_)
       ·
        simp only [List.set_cons_zero, List.set_cons_succ]
        iterate 5 (refine aops_chunk 1 fun Q0 q0 => ?_; simp only [↓bO, go_sem, seval, beq_self_eq_true, hsm, hwr]; refine q0 _ ?_; clear q0 Q0; simp only [go_sem])
        refine aops_case 58 rfl (fun hc58 => ?_) (fun hc58 => ?_)
        ·
         simp only [List.set_cons_zero, List.set_cons_succ]
         refine aops_chunk 1 fun Q0 q0 => ?_
         simp only [↓bO, go_sem, seval, beq_self_eq_true, hsm, hwr]
         refine APure.call (awake28_pure) ?_
         try simp only [bS, bA, thenQ, blockQ, noGotoQ]
         refine q0 _ ?_
         clear q0 Q0
         simp only [go_sem]
         refine aops_chunk 1 fun Q0 q0 => ?_
         simp only [↓bO, go_sem, seval, beq_self_eq_true, hsm, hwr]
         refine q0 _ ?_
         clear q0 Q0
         simp only [go_sem]
         simp only [↓bO, go_sem, seval, beq_self_eq_true, hsm, hwr]
         refine y0 _ ?_
         try clear y0 Y0
         refine AWp_ret ?_
         try simp only [thenQ, blockQ, noGotoQ, retQ, aRes, tupOf, bS, bA]
         exact Le.refl _
        ·
         simp only [List.set_cons_zero, List.set_cons_succ]
         exact absurd hc58 (by simp)
       ·
        simp only [List.set_cons_zero, List.set_cons_succ]
        exact absurd hc53 (by simp)
theorem TapeWrites1_pure (l : List ActT) (hw : ∀ a ∈ l, a.fits ∧ a.name.size ≤ 9223372036854775807 ∧ a.text.size ≤ 9223372036854775807) : APure Tryd.prog 6 [.sl 9 (l.map ActT.cells)] (.v (.bool true)) := by
  refine APure.mkL (.cons (dataActs l) .nil) (.v _) ?_
  refine ACalls_intro Tryd.func6 (by kernel_rfl) rfl (by rw [Tryd.ntmps6]; simp) (fun hm => ?_)
  simp only [Tryd.ntmps6, Tryd.results6, List.length_cons, List.length_nil, Nat.reduceAdd, Nat.reduceSub, List.replicate_succ, List.replicate_zero, List.cons_append, List.nil_append]
  have hl63 := hm.actsLen
  refine AWp_seqK fun Y0 y0 => ?_
  refine AWp_region ?_
  simp only [↓bO, go_sem, seval, beq_self_eq_true, ActT.cells, lineA, Int.natCast_zero, Int.ofNat_zero]
  refine y0 _ ?_
  try clear y0 Y0
  refine AWp_seqK fun Y0 y0 => ?_
  refine AWp_seqK fun Y1 y1 => ?_
  refine AWp_region ?_
  refine aops_chunk 1 fun Q0 q0 => ?_
  simp only [↓bO, go_sem, seval, beq_self_eq_true, ActT.cells, lineA, Int.natCast_zero, Int.ofNat_zero]
  refine q0 _ ?_
  clear q0 Q0
  simp only [go_sem]
  simp only [↓bO, go_sem, seval, beq_self_eq_true, ActT.cells, lineA, Int.natCast_zero, Int.ofNat_zero]
  refine APure.call (great28_pure l hl63) ?_
  try simp only [bS, bA, thenQ, blockQ, noGotoQ]
  refine y1 _ ?_
  try clear y1 Y1
  refine AWp_cond rfl (fun hb14 => ?_) (fun hb14 => ?_)
  ·
   refine AWp_seqK fun Y1 y1 => ?_
   refine AWp_region ?_
   refine aops_chunk 1 fun Q0 q0 => ?_
   simp only [↓bO, go_sem, seval, beq_self_eq_true, ActT.cells, lineA, Int.natCast_zero, Int.ofNat_zero]
   refine APure.call (awake28_pure) ?_
   try simp only [bS, bA, thenQ, blockQ, noGotoQ]
   refine q0 _ ?_
   clear q0 Q0
   simp only [go_sem]
   simp only [↓bO, go_sem, seval, beq_self_eq_true, ActT.cells, lineA, Int.natCast_zero, Int.ofNat_zero]
   refine y1 _ ?_
   try clear y1 Y1
   refine AWp_ret ?_
   try simp only [thenQ, blockQ, noGotoQ, retQ, aRes, tupOf, bS, bA]
   exact Le.refl _
  ·
   have h30 := gr_le (l := l) (by have h9 := hb14; simpa using h9)
   have hin : ActsIn l := ⟨hw, fun k hk ho => (by have := catL_bnd (fun a ha => (hw a ha).1) k hk ho; omega)⟩
   have hnl : ¬ 200 < l.length := by omega
   have hwd := wrA_eq l
   refine AWp_skip ?_
   try simp only [thenQ, blockQ, noGotoQ]
   refine y0 _ ?_
   try clear y0 Y0
   refine AWp_seqK fun Y0 y0 => ?_
   refine AWp_region ?_
   refine aops_chunk 1 fun Q0 q0 => ?_
   simp only [↓bO, go_sem, seval, beq_self_eq_true, ActT.cells, lineA, Int.natCast_zero, Int.ofNat_zero, hwd]
   refine q0 _ ?_
   clear q0 Q0
   simp only [go_sem]
   refine aops_chunk 1 fun Q0 q0 => ?_
   simp only [↓bO, go_sem, seval, beq_self_eq_true, ActT.cells, lineA, Int.natCast_zero, Int.ofNat_zero, hwd]
   refine APure.call (Write_pure l hin hl63) ?_
   try simp only [bS, bA, thenQ, blockQ, noGotoQ]
   refine q0 _ ?_
   clear q0 Q0
   simp only [go_sem]
   refine aops_chunk 1 fun Q0 q0 => ?_
   simp only [↓bO, go_sem, seval, beq_self_eq_true, ActT.cells, lineA, Int.natCast_zero, Int.ofNat_zero, hwd]
   iterate 3 (refine q0 _ ?_; clear q0 Q0; simp only [go_sem]; refine aops_chunk 1 fun Q0 q0 => ?_; simp only [↓bO, go_sem, seval, aExtract_tup, beq_self_eq_true, ActT.cells, lineA, Int.natCast_zero, Int.ofNat_zero, hwd])
   iterate 2 (refine q0 _ ?_; clear q0 Q0; simp only [go_sem]; refine aops_chunk 1 fun Q0 q0 => ?_; simp only [↓bO, go_sem, seval, beq_self_eq_true, ActT.cells, lineA, Int.natCast_zero, Int.ofNat_zero, hwd])
   refine q0 _ ?_
   clear q0 Q0
   simp only [go_sem]
   simp only [↓bO, go_sem, seval, beq_self_eq_true, ActT.cells, lineA, Int.natCast_zero, Int.ofNat_zero, hwd]
   refine y0 _ ?_
   try clear y0 Y0
   refine AWp_seqK fun Y0 y0 => ?_
   refine AWp_region ?_
   simp only [↓bO, go_sem, seval, beq_self_eq_true, ActT.cells, lineA, Int.natCast_zero, Int.ofNat_zero, hwd]
   refine y0 _ ?_
   try clear y0 Y0
   refine AWp_seqK fun Y0 y0 => ?_
   refine AWp_seqK fun Y1 y1 => ?_
   refine AWp_region ?_
   simp only [↓bO, go_sem, seval, beq_self_eq_true, ActT.cells, lineA, Int.natCast_zero, Int.ofNat_zero, hwd]
   refine y1 _ ?_
   try clear y1 Y1
   refine AWp_block ?_
   refine AWp_loopM (σ := Nat) (mB 90 249) (fun i => i ≤ l.length ∧ okTo l i) (fun i => [(6, .v (.string (catL (l.take i)))), (7, .v (.int .i64 (i : Int)))]) (fun i => []) (fun i => l.length - i) 0 (⟨Nat.zero_le _, okTo.zero l⟩) ?_ (fun i hi => ?_)
   ·
    try simp only [maskL, setsL, putsO, putO, mB, List.set_cons_zero, List.set_cons_succ, seval, bL, catL, List.foldl_nil, Int.natCast_zero, emp_eq]
    exact Weak.mk (by simp only [go_sem, Le.refl, Le.any, Le.slNil, Int.natCast_add, Int.cast_ofNat_Int, Int.natCast_one]) (fun _ _ h => h) rfl rfl
   simp only [maskL, setsL, putsO, putO, mB, List.set_cons_zero, List.set_cons_succ, seval]
   have hii := hi.1
   have hw0 : IntKind.i64.wrap ((i : Int) + 1) = ((i + 1 : Nat) : Int) := by (rw [wrap_in (by omega) (by omega)]; omega)
   refine AWp_seqK fun Y1 y1 => ?_
   refine AWp_seqK fun Y2 y2 => ?_
   refine AWp_region ?_
   iterate 3 (refine aops_chunk 1 fun Q0 q0 => ?_; simp only [↓bO, go_sem, seval, beq_self_eq_true, ActT.cells, lineA, Int.natCast_zero, Int.ofNat_zero, hw0, hwd]; refine q0 _ ?_; clear q0 Q0; simp only [go_sem])
   simp only [↓bO, go_sem, seval, beq_self_eq_true, ActT.cells, lineA, Int.natCast_zero, Int.ofNat_zero, hw0, hwd]
   refine y2 _ ?_
   try clear y2 Y2
   refine AWp_cond rfl (fun hb25 => ?_) (fun hb25 => ?_)
   ·
    have hlt : i < l.length := (by have h9 := hb25; simpa using h9)
    obtain ⟨a, ha⟩ : ∃ a, l[i]? = some a := ⟨_, List.getElem?_eq_getElem hlt⟩
    have hga := getD_act ha
    have hwa := hw a (List.mem_of_getElem? ha)
    refine AWp_skip ?_
    try simp only [thenQ, blockQ, noGotoQ]
    refine y1 _ ?_
    try clear y1 Y1
    refine AWp_seqK fun Y1 y1 => ?_
    refine AWp_block ?_
    refine AWp_seqK fun Y2 y2 => ?_
    refine AWp_region ?_
    iterate 4 (refine aops_chunk 1 fun Q0 q0 => ?_; simp only [↓bO, go_sem, seval, beq_self_eq_true, ActT.cells, lineA, Int.natCast_zero, Int.ofNat_zero, hw0, hwd, hlt, hga]; refine q0 _ ?_; clear q0 Q0; simp only [go_sem])
    refine aops_chunk 1 fun Q0 q0 => ?_
    simp only [↓bO, go_sem, seval, beq_self_eq_true, ActT.cells, lineA, Int.natCast_zero, Int.ofNat_zero, hw0, hwd, hlt, hga]
    refine APure.call (RLine_pure a hwa.1 hwa.2.1 hwa.2.2) ?_
    try simp only [bS, bA, thenQ, blockQ, noGotoQ]
    refine q0 _ ?_
    clear q0 Q0
    simp only [go_sem]
    refine aops_chunk 1 fun Q0 q0 => ?_
    simp only [↓bO, go_sem, seval, beq_self_eq_true, ActT.cells, lineA, Int.natCast_zero, Int.ofNat_zero, hw0, hwd, hlt, hga]
    iterate 2 (refine q0 _ ?_; clear q0 Q0; simp only [go_sem]; refine aops_chunk 1 fun Q0 q0 => ?_; simp only [↓bO, go_sem, seval, aExtract_tup, beq_self_eq_true, ActT.cells, lineA, Int.natCast_zero, Int.ofNat_zero, hw0, hwd, hlt, hga])
    refine q0 _ ?_
    clear q0 Q0
    simp only [go_sem]
    refine aops_chunk 1 fun Q0 q0 => ?_
    simp only [↓bO, go_sem, seval, beq_self_eq_true, ActT.cells, lineA, Int.natCast_zero, Int.ofNat_zero, hw0, hwd, hlt, hga]
    refine q0 _ ?_
    clear q0 Q0
    simp only [go_sem]
    simp only [↓bO, go_sem, seval, beq_self_eq_true, ActT.cells, lineA, Int.natCast_zero, Int.ofNat_zero, hw0, hwd, hlt, hga]
    refine y2 _ ?_
    try clear y2 Y2
    refine AWp_seqK fun Y2 y2 => ?_
    refine AWp_seqK fun Y3 y3 => ?_
    refine AWp_region ?_
    refine aops_chunk 1 fun Q0 q0 => ?_
    simp only [↓bO, go_sem, seval, beq_self_eq_true, ActT.cells, lineA, Int.natCast_zero, Int.ofNat_zero, hw0, hwd, hlt, hga]
    refine q0 _ ?_
    clear q0 Q0
    simp only [go_sem]
    simp only [↓bO, go_sem, seval, beq_self_eq_true, ActT.cells, lineA, Int.natCast_zero, Int.ofNat_zero, hw0, hwd, hlt, hga]
    refine y3 _ ?_
    try clear y3 Y3
    refine AWp_cond rfl (fun hb37 => ?_) (fun hb37 => ?_)
    ·
     have herr : a.err ≠ 0 := (by have h9 := hb37; simpa using h9)
     have hba := badAt_first hi.2 ha herr
     have ht1 : wrT l = ByteArray.empty := by (unfold wrT; rw [if_neg hnl, hba]; rfl)
     have ht2 : wrN l = (i : Int) := by (unfold wrN; rw [if_neg hnl, hba])
     have ht3 : wrE l = a.err := by (unfold wrE; rw [if_neg hnl, hba])
     simp only [ht1, ht2, ht3]
     refine AWp_seqK fun Y3 y3 => ?_
     refine AWp_region ?_
     iterate 3 (refine aops_chunk 1 fun Q0 q0 => ?_; simp only [↓bO, go_sem, seval, beq_self_eq_true, ActT.cells, lineA, Int.natCast_zero, Int.ofNat_zero, hw0, hwd, hlt, hga]; refine q0 _ ?_; clear q0 Q0; simp only [go_sem])
     refine aops_case 40 rfl (fun hc40 => ?_) (fun hc40 => ?_)
     ·
      simp only [List.set_cons_zero, List.set_cons_succ]
      iterate 5 (refine aops_chunk 1 fun Q0 q0 => ?_; simp only [↓bO, go_sem, seval, beq_self_eq_true, ActT.cells, lineA, Int.natCast_zero, Int.ofNat_zero, hw0, hwd, hlt, hga]; refine q0 _ ?_; clear q0 Q0; simp only [go_sem])
      refine aops_case 45 rfl (fun hc45 => ?_) (fun hc45 => ?_)
      ·
       simp only [List.set_cons_zero, List.set_cons_succ]
       iterate 5 (refine aops_chunk 1 fun Q0 q0 => ?_; simp only [↓bO, go_sem, seval, beq_self_eq_true, ActT.cells, lineA, Int.natCast_zero, Int.ofNat_zero, hw0, hwd, hlt, hga]; refine q0 _ ?_; clear q0 Q0; simp only [go_sem])
       refine aops_case 50 rfl (fun hc50 => ?_) (fun hc50 => ?_)
       ·
        simp only [List.set_cons_zero, List.set_cons_succ]
        refine aops_chunk 1 fun Q0 q0 => ?_
        simp only [↓bO, go_sem, seval, beq_self_eq_true, ActT.cells, lineA, Int.natCast_zero, Int.ofNat_zero, hw0, hwd, hlt, hga]
        refine APure.call (awake28_pure) ?_
        try simp only [bS, bA, thenQ, blockQ, noGotoQ]
        refine q0 _ ?_
        clear q0 Q0
        simp only [go_sem]
        refine aops_chunk 1 fun Q0 q0 => ?_
        simp only [↓bO, go_sem, seval, beq_self_eq_true, ActT.cells, lineA, Int.natCast_zero, Int.ofNat_zero, hw0, hwd, hlt, hga]
        refine q0 _ ?_
        clear q0 Q0
        simp only [go_sem]
        simp only [↓bO, go_sem, seval, beq_self_eq_true, ActT.cells, lineA, Int.natCast_zero, Int.ofNat_zero, hw0, hwd, hlt, hga]
        refine y3 _ ?_
        try clear y3 Y3
        refine AWp_ret ?_
        try simp only [thenQ, blockQ, noGotoQ, retQ, aRes, tupOf, bS, bA]
        exact Le.refl _
       ·
        simp only [List.set_cons_zero, List.set_cons_succ]
        exact absurd hc50 (by simp)
      ·
       simp only [List.set_cons_zero, List.set_cons_succ]
       exact absurd hc45 (by simp)
     ·
      simp only [List.set_cons_zero, List.set_cons_succ]
      exact absurd hc40 (by simp)
    ·
     have h0 : a.err = 0 := (by have h9 := hb37; simpa using h9)
     have hln := ActT.line_ok h0
     have hts := text_size hwa.1 h0
     have hcb := catL_bnd (fun a ha => (hw a ha).1) i hi.1 hi.2
     have hst := catL_step ha
     have hm1 : (((((catL (l.take i))).size + a.text'.size : Nat) : Int) ≤ IntKind.i64.max) = True := eq_true (by (show ((((catL (l.take i))).size + a.text'.size : Nat) : Int) ≤ 9223372036854775807); omega)
     have hm2 : (((((catL (l.take i))).size + a.text'.size + (#[10] : Array UInt8).size : Nat) : Int) ≤ IntKind.i64.max) = True := eq_true (by (have g : (#[10] : Array UInt8).size = 1 := rfl); (show ((((catL (l.take i))).size + a.text'.size + (#[10] : Array UInt8).size : Nat) : Int) ≤ 9223372036854775807); omega)
     refine AWp_skip ?_
     try simp only [thenQ, blockQ, noGotoQ]
     refine y2 _ ?_
     try clear y2 Y2
     refine AWp_region ?_
     iterate 4 (refine aops_chunk 1 fun Q0 q0 => ?_; simp only [↓bO, go_sem, seval, beq_self_eq_true, ActT.cells, lineA, Int.natCast_zero, Int.ofNat_zero, hw0, hwd, hlt, hga, hln, hst, hm1, hm2]; refine q0 _ ?_; clear q0 Q0; simp only [go_sem])
     simp only [↓bO, go_sem, seval, beq_self_eq_true, ActT.cells, lineA, Int.natCast_zero, Int.ofNat_zero, hw0, hwd, hlt, hga, hln, hst, hm1, hm2]
     refine y1 _ ?_
     try clear y1 Y1
     refine AWp_region ?_
     iterate 2 (refine aops_chunk 1 fun Q0 q0 => ?_; simp only [↓bO, go_sem, seval, beq_self_eq_true, ActT.cells, lineA, Int.natCast_zero, Int.ofNat_zero, hw0, hwd, hlt, hga, hln, hst, hm1, hm2]; refine q0 _ ?_; clear q0 Q0; simp only [go_sem])
     simp only [↓bO, go_sem, seval, beq_self_eq_true, ActT.cells, lineA, Int.natCast_zero, Int.ofNat_zero, hw0, hwd, hlt, hga, hln, hst, hm1, hm2]
     refine ⟨(i + 1), ⟨by omega, hi.2.step ha h0⟩, (by omega), ?_⟩
     try simp only [maskL, setsL, putsO, putO, mB, List.set_cons_zero, List.set_cons_succ, seval, hw0, hwd, hlt, hga, hln, hst, hm1, hm2]
     exact Weak.mk (by simp only [go_sem, Le.refl, Le.any, Le.slNil, Int.natCast_add, Int.cast_ofNat_Int, Int.natCast_one]) (fun _ _ h => h) rfl rfl
   ·
    have hge : i = l.length := (by have h9 := hb25; simp at h9; omega)
    have hct : l.take i = l := (by rw [hge]; exact List.take_length)
    have hok : okTo l l.length := (by have h9 := hi.2; rwa [hge] at h9)
    have hbn := badAt_none hok
    have hal := okAll_of (fun a ha => (hw a ha).1) hok
    have hcb := catL_bnd (fun a ha => (hw a ha).1) l.length (Nat.le_refl _) hok
    rw [List.take_length] at hcb
    have ht1 : wrT l = catL l := by (unfold wrT; rw [if_neg hnl, hbn]; rfl)
    have ht2 : wrN l = 0 := by (unfold wrN; rw [if_neg hnl, hbn])
    have ht3 : wrE l = 0 := by (unfold wrE; rw [if_neg hnl, hbn])
    have hrd := rd_all hal (by omega)
    have hsm : actsB l l = true := decide_eq_true rfl
    simp only [ht1, ht2, ht3, hct]
    refine AWp_exit ?_
    simp only [thenQ, blockQ, noGotoQ, bA, Nat.reduceEqDiff, ↓reduceIte]
    refine y0 _ ?_
    try clear y0 Y0
    refine AWp_seqK fun Y0 y0 => ?_
    refine AWp_region ?_
    refine aops_chunk 1 fun Q0 q0 => ?_
    simp only [↓bO, go_sem, seval, beq_self_eq_true, ActT.cells, lineA, Int.natCast_zero, Int.ofNat_zero, hwd, hrd, hsm]
    refine q0 _ ?_
    clear q0 Q0
    simp only [go_sem]
    refine aops_chunk 1 fun Q0 q0 => ?_
    simp only [↓bO, go_sem, seval, beq_self_eq_true, ActT.cells, lineA, Int.natCast_zero, Int.ofNat_zero, hwd, hrd, hsm]
    refine APure.call (Read_pure (catL l) (by omega)) ?_
    try simp only [bS, bA, thenQ, blockQ, noGotoQ]
    refine q0 _ ?_
    clear q0 Q0
    simp only [go_sem]
    refine aops_chunk 1 fun Q0 q0 => ?_
    simp only [↓bO, go_sem, seval, beq_self_eq_true, ActT.cells, lineA, Int.natCast_zero, Int.ofNat_zero, hwd, hrd, hsm]
    iterate 3 (refine q0 _ ?_; clear q0 Q0; simp only [go_sem]; refine aops_chunk 1 fun Q0 q0 => ?_; simp only [↓bO, go_sem, seval, aExtract_tup, beq_self_eq_true, ActT.cells, lineA, Int.natCast_zero, Int.ofNat_zero, hwd, hrd, hsm])
    iterate 2 (refine q0 _ ?_; clear q0 Q0; simp only [go_sem]; refine aops_chunk 1 fun Q0 q0 => ?_; simp only [↓bO, go_sem, seval, beq_self_eq_true, ActT.cells, lineA, Int.natCast_zero, Int.ofNat_zero, hwd, hrd, hsm])
    refine q0 _ ?_
    clear q0 Q0
    simp only [go_sem]
    simp only [↓bO, go_sem, seval, beq_self_eq_true, ActT.cells, lineA, Int.natCast_zero, Int.ofNat_zero, hwd, hrd, hsm]
    refine y0 _ ?_
    try clear y0 Y0
    refine AWp_seqK fun Y0 y0 => ?_
    refine AWp_region ?_
    iterate 4 (refine aops_chunk 1 fun Q0 q0 => ?_; simp only [↓bO, go_sem, seval, beq_self_eq_true, ActT.cells, lineA, Int.natCast_zero, Int.ofNat_zero, hwd, hrd, hsm]; refine q0 _ ?_; clear q0 Q0; simp only [go_sem])
    refine aops_case 66 rfl (fun hc66 => ?_) (fun hc66 => ?_)
    ·
     simp only [List.set_cons_zero, List.set_cons_succ]
     iterate 4 (refine aops_chunk 1 fun Q0 q0 => ?_; simp only [↓bO, go_sem, seval, beq_self_eq_true, ActT.cells, lineA, Int.natCast_zero, Int.ofNat_zero, hwd, hrd, hsm]; refine q0 _ ?_; clear q0 Q0; simp only [go_sem])
     refine aops_case 70 rfl (fun hc70 => ?_) (fun hc70 => ?_)
     ·
      simp only [List.set_cons_zero, List.set_cons_succ]
      iterate 4 (refine aops_chunk 1 fun Q0 q0 => ?_; simp only [↓bO, go_sem, seval, beq_self_eq_true, ActT.cells, lineA, Int.natCast_zero, Int.ofNat_zero, hwd, hrd, hsm]; refine q0 _ ?_; clear q0 Q0; simp only [go_sem])
      refine aops_case 74 rfl (fun hc74 => ?_) (fun hc74 => ?_)
      ·
       simp only [List.set_cons_zero, List.set_cons_succ]
       iterate 4 (refine aops_chunk 1 fun Q0 q0 => ?_; simp only [↓bO, go_sem, seval, beq_self_eq_true, ActT.cells, lineA, Int.natCast_zero, Int.ofNat_zero, hwd, hrd, hsm]; refine q0 _ ?_; clear q0 Q0; simp only [go_sem])
       refine aops_case 78 rfl (fun hc78 => ?_) (fun hc78 => ?_)
       ·
        simp only [List.set_cons_zero, List.set_cons_succ]
        iterate 4 (refine aops_chunk 1 fun Q0 q0 => ?_; simp only [↓bO, go_sem, seval, beq_self_eq_true, ActT.cells, lineA, Int.natCast_zero, Int.ofNat_zero, hwd, hrd, hsm]; refine q0 _ ?_; clear q0 Q0; simp only [go_sem])
        refine aops_case 82 rfl (fun hc82 => ?_) (fun hc82 => ?_)
        ·
         simp only [List.set_cons_zero, List.set_cons_succ]
         iterate 2 (refine aops_chunk 1 fun Q0 q0 => ?_; simp only [↓bO, go_sem, seval, beq_self_eq_true, ActT.cells, lineA, Int.natCast_zero, Int.ofNat_zero, hwd, hrd, hsm]; refine q0 _ ?_; clear q0 Q0; simp only [go_sem])
         refine aops_chunk 1 fun Q0 q0 => ?_
         simp only [↓bO, go_sem, seval, beq_self_eq_true, ActT.cells, lineA, Int.natCast_zero, Int.ofNat_zero, hwd, hrd, hsm]
         refine APure.call (same28_pure l l (by omega) (by omega)) ?_
         try simp only [bS, bA, thenQ, blockQ, noGotoQ]
         iterate 2 (refine q0 _ ?_; clear q0 Q0; simp only [go_sem]; refine aops_chunk 1 fun Q0 q0 => ?_; simp only [↓bO, go_sem, seval, beq_self_eq_true, ActT.cells, lineA, Int.natCast_zero, Int.ofNat_zero, hwd, hrd, hsm])
         refine q0 _ ?_
         clear q0 Q0
         simp only [go_sem]
         refine aops_case 87 rfl (fun hc87 => ?_) (fun hc87 => ?_)
         ·
          simp only [List.set_cons_zero, List.set_cons_succ]
          refine aops_chunk 1 fun Q0 q0 => ?_
          simp only [↓bO, go_sem, seval, beq_self_eq_true, ActT.cells, lineA, Int.natCast_zero, Int.ofNat_zero, hwd, hrd, hsm]
          refine APure.call (awake28_pure) ?_
          try simp only [bS, bA, thenQ, blockQ, noGotoQ]
          refine q0 _ ?_
          clear q0 Q0
          simp only [go_sem]
          refine aops_chunk 1 fun Q0 q0 => ?_
          simp only [↓bO, go_sem, seval, beq_self_eq_true, ActT.cells, lineA, Int.natCast_zero, Int.ofNat_zero, hwd, hrd, hsm]
          refine q0 _ ?_
          clear q0 Q0
          simp only [go_sem]
          simp only [↓bO, go_sem, seval, beq_self_eq_true, ActT.cells, lineA, Int.natCast_zero, Int.ofNat_zero, hwd, hrd, hsm]
          refine y0 _ ?_
          try clear y0 Y0
          refine AWp_ret ?_
          try simp only [thenQ, blockQ, noGotoQ, retQ, aRes, tupOf, bS, bA]
          exact Le.refl _
         ·
          simp only [List.set_cons_zero, List.set_cons_succ]
          exact absurd hc87 (by simp)
        ·
         simp only [List.set_cons_zero, List.set_cons_succ]
         exact absurd hc82 (by simp)
       ·
        simp only [List.set_cons_zero, List.set_cons_succ]
        exact absurd hc78 (by simp)
      ·
       simp only [List.set_cons_zero, List.set_cons_succ]
       exact absurd hc74 (by simp)
     ·
      simp only [List.set_cons_zero, List.set_cons_succ]
      exact absurd hc70 (by simp)
    ·
     simp only [List.set_cons_zero, List.set_cons_succ]
     exact absurd hc66 (by simp)
theorem TapeWrites_pure (P : List ActP) : APure Tryd.prog 6 [.sl 9 (P.map ActP.cells)] (.v (.bool true)) := by
  have h := TapeWrites1_pure (P.map fun a => a.1) (fun a ha => by
    obtain ⟨p, _, rfl⟩ := List.mem_map.1 ha
    exact p.2)
  rw [List.map_map] at h
  exact h
end Go.Proofs.YtmepcmphcghbeaaDoor
namespace Go.Proofs.YtmepcmphcghbeaaDoor
open Go Go.Shelf
def Tryd.lays157_ren : Go.Shelf.Ren := ⟨fun | 157 => 60 | 229 => 70 | 199 => 71 | 261 => 82 | 311 => 91 | 312 => 92 | n => n, fun | 9 => 9 | 31 => 65 | 3 => 3 | 5 => 5 | 4 => 4 | 119 => 98 | 0 => 0 | 40 => 100 | 152 => 115 | 21 => 21 | 154 => 117 | 51 => 112 | 141 => 119 | 196 => 132 | 193 => 129 | 198 => 135 | 49 => 133 | 194 => 130 | 201 => 138 | 226 => 145 | 46 => 52 | 227 => 146 | n => n, fun | 0 => 2 | 6 => 3 | n => n⟩
theorem Tryd.lays157 : Go.Proofs.Lays.n157 Tryd.prog Tryd.lays157_ren := {
  mixed := by kernel_rfl
  f157 := Tryd.func60.trans (congrArg some (by kernel_rfl))
  f199 := Tryd.func71.trans (congrArg some (by kernel_rfl))
  f229 := Tryd.func70.trans (congrArg some (by kernel_rfl))
  f261 := Tryd.func82.trans (congrArg some (by kernel_rfl))
  f311 := Tryd.func91.trans (congrArg some (by kernel_rfl))
  f312 := Tryd.func92.trans (congrArg some (by kernel_rfl))
  t0 := Tryd.underlying0
  a0 := Tryd.isAgg0
  z0 := Tryd.sizeOf0
  v0 := Tryd.zeroValue0
  t3 := Tryd.underlying3
  a3 := Tryd.isAgg3
  z3 := Tryd.sizeOf3
  v3 := Tryd.zeroValue3
  t4 := Tryd.underlying4
  a4 := Tryd.isAgg4
  z4 := Tryd.sizeOf4
  v4 := Tryd.zeroValue4
  t5 := Tryd.underlying5
  a5 := Tryd.isAgg5
  z5 := Tryd.sizeOf5
  v5 := Tryd.zeroValue5
  t9 := Tryd.underlying9
  a9 := Tryd.isAgg9
  z9 := Tryd.sizeOf9
  v9 := Tryd.zeroValue9
  t21 := Tryd.underlying21
  a21 := Tryd.isAgg21
  z21 := Tryd.sizeOf21
  v21 := Tryd.zeroValue21
  t31 := Tryd.underlying65
  a31 := Tryd.isAgg65
  z31 := Tryd.sizeOf65
  v31 := Tryd.zeroValue65
  t40 := Tryd.underlying100
  a40 := Tryd.isAgg100
  z40 := Tryd.sizeOf100
  v40 := Tryd.zeroValue100
  t46 := Tryd.underlying52
  a46 := Tryd.isAgg52
  z46 := Tryd.sizeOf52
  v46 := Tryd.zeroValue52
  t49 := Tryd.underlying133
  a49 := Tryd.isAgg133
  z49 := Tryd.sizeOf133
  v49 := Tryd.zeroValue133
  t51 := Tryd.underlying112
  a51 := Tryd.isAgg112
  z51 := Tryd.sizeOf112
  v51 := Tryd.zeroValue112
  t119 := Tryd.underlying98
  a119 := Tryd.isAgg98
  z119 := Tryd.sizeOf98
  t141 := Tryd.underlying119
  a141 := Tryd.isAgg119
  z141 := Tryd.sizeOf119
  v141 := Tryd.zeroValue119
  t152 := Tryd.underlying115
  a152 := Tryd.isAgg115
  z152 := Tryd.sizeOf115
  v152 := Tryd.zeroValue115
  t154 := Tryd.underlying117
  a154 := Tryd.isAgg117
  z154 := Tryd.sizeOf117
  v154 := Tryd.zeroValue117
  t193 := Tryd.underlying129
  a193 := Tryd.isAgg129
  z193 := Tryd.sizeOf129
  v193 := Tryd.zeroValue129
  t194 := Tryd.underlying130
  a194 := Tryd.isAgg130
  z194 := Tryd.sizeOf130
  v194 := Tryd.zeroValue130
  t196 := Tryd.underlying132
  a196 := Tryd.isAgg132
  z196 := Tryd.sizeOf132
  v196 := Tryd.zeroValue132
  t198 := Tryd.underlying135
  a198 := Tryd.isAgg135
  z198 := Tryd.sizeOf135
  v198 := Tryd.zeroValue135
  t201 := Tryd.underlying138
  a201 := Tryd.isAgg138
  z201 := Tryd.sizeOf138
  v201 := Tryd.zeroValue138
  t226 := Tryd.underlying145
  a226 := Tryd.isAgg145
  z226 := Tryd.sizeOf145
  v226 := Tryd.zeroValue145
  t227 := Tryd.underlying146
  a227 := Tryd.isAgg146
  z227 := Tryd.sizeOf146
  v227 := Tryd.zeroValue146
  g0 := by kernel_rfl
  g6 := by kernel_rfl }
end Go.Proofs.YtmepcmphcghbeaaDoor
namespace Go.Proofs.YtmepcmphcghbeaaDoor
open Go
variable {H : Type} {enc : TypeId × Value → H}
theorem handed_laid_shaped {a : Assume} {C : Checked} {os : Go.Os} {f : FuncId} {fn : Func} {s : ChangeSpec} {conds : List PathCond} {apart fresh handsOn again : Bool} {X : World → Array Value → Prop}
    (hX : ∀ (w w' : World) (args : Array Value), w.heap = w'.heap → X w args → X w' args)
    (own : ownKnob C.prog.godebug = none) (started : os.Started) (noInit : C.prog.inits.idxOf? f = none) (hfn : C.prog.funcs[f]? = some fn)
    (witness : ∃ (w : World) (tape : Tape) (i : Input), w.os = os ∧ (w.forCall tape i).Shaped C.prog ∧ i.vars = [] ∧ Input.okWide C.prog (w.forCall tape i) .any w.heap.size f i ∧
      ((s.pre enc C.prog fn conds apart (w.forCall tape i).memory i.args ∧ X (w.forCall tape i).memory i.args) ∧ sizedMet enc C.prog fn (OpenSpec.ofChange s) apart (w.forCall tape i).memory i.args) ∧ a.holds C.prog (lone (Frame.enter C.prog f i.args .normal) [] (w.forCall tape i)))
    (contract : ∀ (W : World) (base : Nat) (args : Array Value) (ds gs : List (DataW H)) (before : List MemPlace),
      (∀ (j : Nat) t v, fn.params[j]? = some t → args[j]? = some v → Value.okWide C.prog W .any base t v) →
      DataW.Whole enc C.prog fn.params.toList s.vars apart W args.toList ds gs before →
      conds.all (PathCond.test C.prog ⟨fn.params.toList, ds, s.plain.varTypes C.prog, gs⟩) = true →
      X W args → W.ShapedOpen C.prog →
      Calls C.prog f args W fun e W' => ∃ v, e = .returned v ∧ s.post enc C.prog fn apart fresh handsOn again W args v W') :
    ReturnsInHanded a C os f .any (fun w args => (s.pre enc C.prog fn conds apart w args ∧ X w args) ∧ sizedMet enc C.prog fn (OpenSpec.ofChange s) apart w args) (s.post enc C.prog fn apart fresh handsOn again) :=
  returnsInHanded_of_calls own started noInit witness fun w tape i _ hsh _ hok hpre _ => by
    obtain ⟨_, _, _, fn1, hf1, _, _, _, _, hval⟩ := hok
    obtain rfl : fn1 = fn := Option.some.inj (hf1.symm.trans hfn)
    obtain ⟨⟨⟨ds, gs, before, hw, hc⟩, hx⟩, _⟩ := hpre
    refine (contract (w.forCall tape i) w.heap.size i.args ds gs before hval (DataW.Whole.of_heap (w' := w.forCall tape i) (by rfl) hw) hc (hX _ _ _ (by rfl) hx) hsh).mono fun e W' ⟨v, he, hp⟩ => ?_
    subst he
    exact ChangeSpec.post_blind hp
end Go.Proofs.YtmepcmphcghbeaaDoor
namespace Go.Proofs.YtmepcmphcghbeaaDoor.tapeWrites
open Go Go.ChangeShapes Go.WideShapes Go.ChangeAt Go.RowKit
set_option linter.unusedVariables false
theorem own : ownKnob Tryd.prog.godebug = none := by kernel_rfl
theorem laidOut : laidOutB Tryd.prog = true := by kernel_rfl
section
variable {H : Type} {enc : TypeId × Value → H} {w : World} {base : Nat} {spare : Nat → Bool} {held : Bool}
theorem cAc : Tryd.prog.cellsOf 30 = 9 := by kernel_rfl
theorem cLm : Tryd.prog.cellsOf 28 = 3 := by kernel_rfl
theorem cIn : Tryd.prog.cellsOf 3 = 1 := by kernel_rfl
theorem cSg : Tryd.prog.cellsOf 9 = 1 := by kernel_rfl
theorem rdP (fuel : Nat) : Rd enc Tryd.prog w base spare held Env.none fuel 30 ActP.cells :=
  rd_act Tryd.underlying30 Tryd.underlying28 cAc cLm cIn cSg Tryd.underlying3 Tryd.underlying9 rfl rfl rfl rfl rfl rfl rfl rfl rfl rfl rfl rfl rfl rfl rfl rfl rfl rfl rfl rfl fuel
theorem rdQs (fuel : Nat) : Rd enc Tryd.prog w base spare held Env.none fuel 39 (fun xs : List ActP => [.sl 9 (xs.map ActP.cells)]) :=
  rd_slice Tryd.underlying39 cAc (by omega) (fun _ => rfl) fun n _ => rdP n
end
set_option maxRecDepth 100000 in
theorem lifted (os : Go.Os) (started : os.Started) (H : Type) (enc : TypeId × Value → H) :
    ReturnsInHanded {} Tryd.checked os 6 .any (fun w args => (Rows.tapeWritesSpec.pre enc Tryd.prog Tryd.f6 Rows.tapeWritesRow.domain false w args ∧ laidMetH Tryd.prog Rows.tapeWritesRow.laid w) ∧ sizedMet enc Tryd.prog Tryd.f6 (OpenSpec.ofChange Rows.tapeWritesSpec) false w args)
      (Rows.tapeWritesSpec.post enc Tryd.prog Tryd.f6 false true false false) := by
  refine handed_laid_shaped (C := Tryd.checked) (X := fun w _ => laidMetH Tryd.prog Rows.tapeWritesRow.laid w) (fun _ _ _ hh h => h.of_heap hh) own started (by kernel_rfl) Tryd.func6
    (ChangeSpec.witness_shaped (enc := enc) (C := Tryd.checked) (os := os) (X := fun w _ => laidMetH Tryd.prog Rows.tapeWritesRow.laid w) false (World.laidAll Tryd.prog os Rows.tapeWritesRow.laid) #[.slice none 0 0] 8 (World.laidAll_os _ _ _)
      (World.shaped_of_ZipB (by kernel_rfl) (by kernel_rfl)) (by kernel_rfl) (by kernel_rfl) (by kernel_rfl)
      (by rw [MakeChecks.laidMetH_plain _ _ _ (by kernel_rfl)]; exact laidMet_laidAll _ (by kernel_rfl) (by kernel_rfl))) ?_
  intro W base args ds gs before hval0 hW hcnd hL hsh
  have hlaid : laidMet Tryd.prog Rows.tapeWritesRow.laid W := by have h := hL; rw [MakeChecks.laidMetH_plain _ _ _ (by kernel_rfl)] at h; exact h
  have hgl : Gl (fun _ _ => False) W := by
    refine ⟨?_, ?_, ?_⟩
    · intro p hp
      have hp : p ∈ [(0, gv0), (2, gv2), (4, gv4)] := hp
      rcases List.mem_cons.1 hp with rfl | hp
      · refine gl_strs (strsIs_of_head (lls := [[[], []], [[111, 112, 101, 110], [110, 116]], [[101, 100, 105, 116], [110, 102, 111, 116]], [[99, 108, 111, 115, 101], [110]], [[99, 104, 101, 99, 107], [110]], [[114, 117, 110], [110, 117]], [[108, 105, 109, 105, 116], [108]], [[108, 105, 115, 116], []]]) (l := gy0) (g := 0) (t := 62) (e := 61) (s := 9) (n := 8) (m := 2) (rest := []) (name := "pangram/tape.uses") (by kernel_rfl) (by kernel_rfl) Tryd.underlying62 Tryd.underlying61 Tryd.underlying9 (by kernel_rfl) (by kernel_rfl) (by kernel_rfl) (by kernel_rfl) ?_) (by kernel_rfl) rfl
        have h := hlaid.filter (fun x => x.1 == "pangram/tape.uses")
        rw [show (Rows.tapeWritesRow.laid.filter fun x => x.1 == "pangram/tape.uses") = [("pangram/tape.uses", .agg (([[[], []], [[111, 112, 101, 110], [110, 116]], [[101, 100, 105, 116], [110, 102, 111, 116]], [[99, 108, 111, 115, 101], [110]], [[99, 104, 101, 99, 107], [110]], [[114, 117, 110], [110, 117]], [[108, 105, 109, 105, 116], [108]], [[108, 105, 115, 116], []]] : List (List (List UInt8))).map fun ls => .agg (ls.map fun l => .lit (.string l))))] from by kernel_rfl] at h
        exact h
      rcases List.mem_cons.1 hp with rfl | hp
      · refine gl_one (Lib.tabIs_of_head (zs := gz2) (k := .u8) (g := 2) (t := 98) (e := 5) (n := 256) (rest := []) (name := "strings.asciiSpace") (by kernel_rfl) (by kernel_rfl) Tryd.underlying98 Tryd.underlying5 (by kernel_rfl) (by kernel_rfl) ?_) (by kernel_rfl) rfl
        have h := hlaid.filter (fun x => x.1 == "strings.asciiSpace")
        rw [show (Rows.tapeWritesRow.laid.filter fun x => x.1 == "strings.asciiSpace") = [("strings.asciiSpace", Lib.tabData .u8 gz2)] from by kernel_rfl] at h
        exact h
      rcases List.mem_cons.1 hp with rfl | hp
      · refine gl_one (Lib.tabIs_of_head (zs := gz4) (k := .u64) (g := 4) (t := 121) (e := 85) (n := 20) (rest := []) (name := "internal/strconv.uint64pow10") (by kernel_rfl) (by kernel_rfl) Tryd.underlying121 Tryd.underlying85 (by kernel_rfl) (by kernel_rfl) ?_) (by kernel_rfl) rfl
        have h := hlaid.filter (fun x => x.1 == "internal/strconv.uint64pow10")
        rw [show (Rows.tapeWritesRow.laid.filter fun x => x.1 == "internal/strconv.uint64pow10") = [("internal/strconv.uint64pow10", Lib.tabData .u64 gz4)] from by kernel_rfl] at h
        exact h
      cases hp
    · intro p hp
      have hp : p ∈ ([5, 6] : List Nat) := hp
      rcases List.mem_cons.1 hp with rfl | hp
      · have h := hlaid.filter (fun x => x.1 == "strconv.ErrSyntax")
        rw [show (Rows.tapeWritesRow.laid.filter fun x => x.1 == "strconv.ErrSyntax") = [("strconv.ErrSyntax", .iface "*errors.errorString" (.ptr (.agg [.lit (.string [105, 110, 118, 97, 108, 105, 100, 32, 115, 121, 110, 116, 97, 120])])))] from by kernel_rfl] at h
        obtain ⟨a0, s0, hv0, _⟩ := laid_sentinel (g := 5) (ti := 77) (tp := 142) (te := 144) (ts := 9) h (by kernel_rfl) (by kernel_rfl) Tryd.underlying77
          (fun u hu => typeName_ptr_named (nm := "errors.errorString") (by rw [show "*" ++ "errors.errorString" = "*errors.errorString" by decide]; kernel_rfl) (by kernel_rfl) (by decide) u (by rw [show "*" ++ "errors.errorString" = "*errors.errorString" by decide]; exact hu))
          Tryd.underlying142 Tryd.underlying144 rfl rfl Tryd.underlying9 (by kernel_rfl) (by kernel_rfl)
        exact glE_one hv0 (by kernel_rfl)
      rcases List.mem_cons.1 hp with rfl | hp
      · have h := hlaid.filter (fun x => x.1 == "strconv.ErrRange")
        rw [show (Rows.tapeWritesRow.laid.filter fun x => x.1 == "strconv.ErrRange") = [("strconv.ErrRange", .iface "*errors.errorString" (.ptr (.agg [.lit (.string [118, 97, 108, 117, 101, 32, 111, 117, 116, 32, 111, 102, 32, 114, 97, 110, 103, 101])])))] from by kernel_rfl] at h
        obtain ⟨a0, s0, hv0, _⟩ := laid_sentinel (g := 6) (ti := 77) (tp := 142) (te := 144) (ts := 9) h (by kernel_rfl) (by kernel_rfl) Tryd.underlying77
          (fun u hu => typeName_ptr_named (nm := "errors.errorString") (by rw [show "*" ++ "errors.errorString" = "*errors.errorString" by decide]; kernel_rfl) (by kernel_rfl) (by decide) u (by rw [show "*" ++ "errors.errorString" = "*errors.errorString" by decide]; exact hu))
          Tryd.underlying142 Tryd.underlying144 rfl rfl Tryd.underlying9 (by kernel_rfl) (by kernel_rfl)
        exact glE_one hv0 (by kernel_rfl)
      cases hp
    · intro p hp
      have hp : p ∈ ([Lib.WhiteTab 3, fun w => ∃ m : Int, w.cell? ⟨1, 0, none⟩ = some (.int .i64 m)] : List (World → Prop)) := hp
      rcases List.mem_cons.1 hp with rfl | hp
      · intro w1 hs1
        have h := hlaid.filter (fun x => x.1 == "unicode.White_Space")
        rw [show (Rows.tapeWritesRow.laid.filter fun x => x.1 == "unicode.White_Space") = [("unicode.White_Space", Lib.whiteData)] from by kernel_rfl] at h
        exact WhiteTab_below (whiteTab_of_reads { Tryd.lays157 with } ⟨by kernel_rfl, by kernel_rfl, by kernel_rfl, by kernel_rfl, by kernel_rfl, by kernel_rfl, by kernel_rfl, by kernel_rfl⟩ (Lib.laidMet.reads h (.head _))) hs1.below
      rcases List.mem_cons.1 hp with rfl | hp
      · intro w1 hs1
        obtain ⟨m, hm⟩ := cell_of_shapedOpen_int (P := Tryd.prog) (g := 1) (t := 3) (k := .i64) (zero := #[.int .i64 0]) hsh (of_decide_eq_true (by kernel_rfl)) (by kernel_rfl) rfl (by kernel_rfl) (by kernel_rfl) Tryd.underlying3
        exact ⟨m, (hs1.below.cell (World.block_lt_of_cell? W _ hm)).trans hm⟩
      cases hp
  have hval : ∀ (j : Nat) t v, Tryd.f6.params[j]? = some t → args[j]? = some v → Value.okWide Tryd.prog W .any base t v := hval0
  have hW' := hW
  obtain ⟨p, q, hA0, hV, rfl, hfz, hnd⟩ := hW
  have hA : DataW.TrodAll enc Tryd.prog W 0 (fun _ => true) true Tryd.f6.params.toList args.toList ds p := hA0
  rw [Tryd.params6] at hA hval
  obtain ⟨v0, vs0, d0, ds0, p0, q0, hargs, rfl, rfl, h0, r0⟩ := trodAll_cons hA
  obtain ⟨rfl, rfl, rfl⟩ := trodAll_nil r0
  obtain rfl : args = #[v0] := by cases args; simp_all
  obtain ⟨rfl, rfl⟩ := trodVars_none hV
  have k0 := h0
  have lt0 : ∀ x ∈ p0, x.block < W.heap.size := by obtain ⟨m, hm⟩ := k0; exact DataW.trod_lt m _ _ _ hm
  obtain ⟨b0, len0, cap0, rfl⟩ := okWide_slice Tryd.underlying39 (hval 0 39 v0 rfl rfl)
  obtain ⟨P0, hr0⟩ : ∃ P : List ActP, Rp Env.none (fun _ _ => False) W (.sl 9 (P.map ActP.cells)) (.slice b0 len0 cap0) := by
    obtain ⟨m, hm⟩ := h0
    obtain ⟨P, _, hr⟩ := rdQs m _ _ hm
    exact ⟨P, hr 0 _ _ rfl rfl⟩
  clear hA0 hval0
  refine ((TapeWrites_pure P0).calls (w := W) rfl ?_ hgl).mono fun e W' ⟨he, bel⟩ => ?_
  · intro i c u hc hu
    match i with
    | 0 => simp at hc hu; subst hc; subst hu; exact hr0
    | i + 1 => simp at hc
  subst he
  exact ⟨_, rfl, _, _, _, [], _, [], hW', trodAll_mk1 (shut_bool Tryd.underlying4 _), (trodAll_cons_mk (Below.trod laidOut (by kernel_rfl) (of_decide_eq_true (by kernel_rfl)) k0 bel lt0) trodAll_mk0), rfl, bel.frame _, fun h => by cases h⟩
theorem over : Rows.tapeWritesRow.holds Tryd.pinned (OpenSpec.ofChange Rows.tapeWritesSpec) :=
  OpenClaim.holds_of_wide 6 Tryd.f6 rfl rfl rfl rfl rfl rfl rfl ⟨rfl, rfl, rfl, rfl, rfl⟩ rfl rfl rfl rfl rfl (by kernel_rfl) Tryd.func6 (by kernel_rfl)
    (of_decide_eq_true (by kernel_rfl)) (by unfold Func.isWrapper; first | (rw [if_pos (by decide +kernel)]; kernel_rfl) | (rw [if_neg (by decide +kernel)]; exact ⟨rfl, rfl⟩))
    (fun os started H enc _ => lifted os started H enc)
end Go.Proofs.YtmepcmphcghbeaaDoor.tapeWrites
namespace Go.Proofs.YtmepcmphcghbeaaDoor
theorem tapeWrites_proved : Rows.TapeWritesCardSaid :=
  Claim7.holds_tied_plain_at .later [] _ _ _ _ tapeWrites.over (fun _ h => by cases h) (by kernel_rfl) (fun _ h => by cases h) tapeWrites_row_tie rfl ⟨rfl, rfl⟩ (by kernel_rfl) rfl
    (fun f fn hf hfn => by
      obtain rfl : f = 6 := Option.some.inj ((show Tryd.prog.funcNamed "pangram/pangramlaw28.TapeWrites" = some 6 by kernel_rfl).symm.trans hf) |>.symm
      obtain rfl : fn = Tryd.f6 := (Option.some.inj (Tryd.func6.symm.trans hfn)).symm
      refine ⟨by kernel_rfl, fun j t ht => ?_⟩
      rw [Tryd.params6] at ht
      have hm : t ∈ [39] := by simpa using Array.mem_of_getElem? ht
      have hall : ([39].all fun u => !Tryd.prog.wantsStandIn u) = true := by kernel_rfl
      have := List.all_eq_true.1 hall t hm
      have h9 : Tryd.prog.wantsStandIn t = false := by simpa using this
      exact h9)
    (by kernel_rfl)
#print axioms tapeWrites_proved
end Go.Proofs.YtmepcmphcghbeaaDoor
namespace Go.Proofs.YtmepcmphcghbeaaDoor.tapeReads
open Go Go.ChangeShapes Go.WideShapes Go.ChangeAt Go.RowKit
set_option linter.unusedVariables false
theorem own : ownKnob Tryd.prog.godebug = none := by kernel_rfl
theorem laidOut : laidOutB Tryd.prog = true := by kernel_rfl
section
variable {H : Type} {enc : TypeId × Value → H} {w : World} {base : Nat} {spare : Nat → Bool} {held : Bool}
end
set_option maxRecDepth 100000 in
theorem lifted (os : Go.Os) (started : os.Started) (H : Type) (enc : TypeId × Value → H) :
    ReturnsInHanded {} Tryd.checked os 7 .any (fun w args => (Rows.tapeReadsSpec.pre enc Tryd.prog Tryd.f7 Rows.tapeReadsRow.domain false w args ∧ laidMetH Tryd.prog Rows.tapeReadsRow.laid w) ∧ sizedMet enc Tryd.prog Tryd.f7 (OpenSpec.ofChange Rows.tapeReadsSpec) false w args)
      (Rows.tapeReadsSpec.post enc Tryd.prog Tryd.f7 false true false false) := by
  refine handed_laid_shaped (C := Tryd.checked) (X := fun w _ => laidMetH Tryd.prog Rows.tapeReadsRow.laid w) (fun _ _ _ hh h => h.of_heap hh) own started (by kernel_rfl) Tryd.func7
    (ChangeSpec.witness_shaped (enc := enc) (C := Tryd.checked) (os := os) (X := fun w _ => laidMetH Tryd.prog Rows.tapeReadsRow.laid w) false (World.laidAll Tryd.prog os Rows.tapeReadsRow.laid) #[.string ByteArray.empty] 8 (World.laidAll_os _ _ _)
      (World.shaped_of_ZipB (by kernel_rfl) (by kernel_rfl)) (by kernel_rfl) (by kernel_rfl) (by kernel_rfl)
      (by rw [MakeChecks.laidMetH_plain _ _ _ (by kernel_rfl)]; exact laidMet_laidAll _ (by kernel_rfl) (by kernel_rfl))) ?_
  intro W base args ds gs before hval0 hW hcnd hL hsh
  have hlaid : laidMet Tryd.prog Rows.tapeReadsRow.laid W := by have h := hL; rw [MakeChecks.laidMetH_plain _ _ _ (by kernel_rfl)] at h; exact h
  have hgl : Gl (fun _ _ => False) W := by
    refine ⟨?_, ?_, ?_⟩
    · intro p hp
      have hp : p ∈ [(0, gv0), (2, gv2), (4, gv4)] := hp
      rcases List.mem_cons.1 hp with rfl | hp
      · refine gl_strs (strsIs_of_head (lls := [[[], []], [[111, 112, 101, 110], [110, 116]], [[101, 100, 105, 116], [110, 102, 111, 116]], [[99, 108, 111, 115, 101], [110]], [[99, 104, 101, 99, 107], [110]], [[114, 117, 110], [110, 117]], [[108, 105, 109, 105, 116], [108]], [[108, 105, 115, 116], []]]) (l := gy0) (g := 0) (t := 62) (e := 61) (s := 9) (n := 8) (m := 2) (rest := []) (name := "pangram/tape.uses") (by kernel_rfl) (by kernel_rfl) Tryd.underlying62 Tryd.underlying61 Tryd.underlying9 (by kernel_rfl) (by kernel_rfl) (by kernel_rfl) (by kernel_rfl) ?_) (by kernel_rfl) rfl
        have h := hlaid.filter (fun x => x.1 == "pangram/tape.uses")
        rw [show (Rows.tapeReadsRow.laid.filter fun x => x.1 == "pangram/tape.uses") = [("pangram/tape.uses", .agg (([[[], []], [[111, 112, 101, 110], [110, 116]], [[101, 100, 105, 116], [110, 102, 111, 116]], [[99, 108, 111, 115, 101], [110]], [[99, 104, 101, 99, 107], [110]], [[114, 117, 110], [110, 117]], [[108, 105, 109, 105, 116], [108]], [[108, 105, 115, 116], []]] : List (List (List UInt8))).map fun ls => .agg (ls.map fun l => .lit (.string l))))] from by kernel_rfl] at h
        exact h
      rcases List.mem_cons.1 hp with rfl | hp
      · refine gl_one (Lib.tabIs_of_head (zs := gz2) (k := .u8) (g := 2) (t := 98) (e := 5) (n := 256) (rest := []) (name := "strings.asciiSpace") (by kernel_rfl) (by kernel_rfl) Tryd.underlying98 Tryd.underlying5 (by kernel_rfl) (by kernel_rfl) ?_) (by kernel_rfl) rfl
        have h := hlaid.filter (fun x => x.1 == "strings.asciiSpace")
        rw [show (Rows.tapeReadsRow.laid.filter fun x => x.1 == "strings.asciiSpace") = [("strings.asciiSpace", Lib.tabData .u8 gz2)] from by kernel_rfl] at h
        exact h
      rcases List.mem_cons.1 hp with rfl | hp
      · refine gl_one (Lib.tabIs_of_head (zs := gz4) (k := .u64) (g := 4) (t := 121) (e := 85) (n := 20) (rest := []) (name := "internal/strconv.uint64pow10") (by kernel_rfl) (by kernel_rfl) Tryd.underlying121 Tryd.underlying85 (by kernel_rfl) (by kernel_rfl) ?_) (by kernel_rfl) rfl
        have h := hlaid.filter (fun x => x.1 == "internal/strconv.uint64pow10")
        rw [show (Rows.tapeReadsRow.laid.filter fun x => x.1 == "internal/strconv.uint64pow10") = [("internal/strconv.uint64pow10", Lib.tabData .u64 gz4)] from by kernel_rfl] at h
        exact h
      cases hp
    · intro p hp
      have hp : p ∈ ([5, 6] : List Nat) := hp
      rcases List.mem_cons.1 hp with rfl | hp
      · have h := hlaid.filter (fun x => x.1 == "strconv.ErrSyntax")
        rw [show (Rows.tapeReadsRow.laid.filter fun x => x.1 == "strconv.ErrSyntax") = [("strconv.ErrSyntax", .iface "*errors.errorString" (.ptr (.agg [.lit (.string [105, 110, 118, 97, 108, 105, 100, 32, 115, 121, 110, 116, 97, 120])])))] from by kernel_rfl] at h
        obtain ⟨a0, s0, hv0, _⟩ := laid_sentinel (g := 5) (ti := 77) (tp := 142) (te := 144) (ts := 9) h (by kernel_rfl) (by kernel_rfl) Tryd.underlying77
          (fun u hu => typeName_ptr_named (nm := "errors.errorString") (by rw [show "*" ++ "errors.errorString" = "*errors.errorString" by decide]; kernel_rfl) (by kernel_rfl) (by decide) u (by rw [show "*" ++ "errors.errorString" = "*errors.errorString" by decide]; exact hu))
          Tryd.underlying142 Tryd.underlying144 rfl rfl Tryd.underlying9 (by kernel_rfl) (by kernel_rfl)
        exact glE_one hv0 (by kernel_rfl)
      rcases List.mem_cons.1 hp with rfl | hp
      · have h := hlaid.filter (fun x => x.1 == "strconv.ErrRange")
        rw [show (Rows.tapeReadsRow.laid.filter fun x => x.1 == "strconv.ErrRange") = [("strconv.ErrRange", .iface "*errors.errorString" (.ptr (.agg [.lit (.string [118, 97, 108, 117, 101, 32, 111, 117, 116, 32, 111, 102, 32, 114, 97, 110, 103, 101])])))] from by kernel_rfl] at h
        obtain ⟨a0, s0, hv0, _⟩ := laid_sentinel (g := 6) (ti := 77) (tp := 142) (te := 144) (ts := 9) h (by kernel_rfl) (by kernel_rfl) Tryd.underlying77
          (fun u hu => typeName_ptr_named (nm := "errors.errorString") (by rw [show "*" ++ "errors.errorString" = "*errors.errorString" by decide]; kernel_rfl) (by kernel_rfl) (by decide) u (by rw [show "*" ++ "errors.errorString" = "*errors.errorString" by decide]; exact hu))
          Tryd.underlying142 Tryd.underlying144 rfl rfl Tryd.underlying9 (by kernel_rfl) (by kernel_rfl)
        exact glE_one hv0 (by kernel_rfl)
      cases hp
    · intro p hp
      have hp : p ∈ ([Lib.WhiteTab 3, fun w => ∃ m : Int, w.cell? ⟨1, 0, none⟩ = some (.int .i64 m)] : List (World → Prop)) := hp
      rcases List.mem_cons.1 hp with rfl | hp
      · intro w1 hs1
        have h := hlaid.filter (fun x => x.1 == "unicode.White_Space")
        rw [show (Rows.tapeReadsRow.laid.filter fun x => x.1 == "unicode.White_Space") = [("unicode.White_Space", Lib.whiteData)] from by kernel_rfl] at h
        exact WhiteTab_below (whiteTab_of_reads { Tryd.lays157 with } ⟨by kernel_rfl, by kernel_rfl, by kernel_rfl, by kernel_rfl, by kernel_rfl, by kernel_rfl, by kernel_rfl, by kernel_rfl⟩ (Lib.laidMet.reads h (.head _))) hs1.below
      rcases List.mem_cons.1 hp with rfl | hp
      · intro w1 hs1
        obtain ⟨m, hm⟩ := cell_of_shapedOpen_int (P := Tryd.prog) (g := 1) (t := 3) (k := .i64) (zero := #[.int .i64 0]) hsh (of_decide_eq_true (by kernel_rfl)) (by kernel_rfl) rfl (by kernel_rfl) (by kernel_rfl) Tryd.underlying3
        exact ⟨m, (hs1.below.cell (World.block_lt_of_cell? W _ hm)).trans hm⟩
      cases hp
  have hval : ∀ (j : Nat) t v, Tryd.f7.params[j]? = some t → args[j]? = some v → Value.okWide Tryd.prog W .any base t v := hval0
  have hW' := hW
  obtain ⟨p, q, hA0, hV, rfl, hfz, hnd⟩ := hW
  have hA : DataW.TrodAll enc Tryd.prog W 0 (fun _ => true) true Tryd.f7.params.toList args.toList ds p := hA0
  rw [Tryd.params7] at hA hval
  obtain ⟨v0, vs0, d0, ds0, p0, q0, hargs, rfl, rfl, h0, r0⟩ := trodAll_cons hA
  obtain ⟨rfl, rfl, rfl⟩ := trodAll_nil r0
  obtain rfl : args = #[v0] := by cases args; simp_all
  obtain ⟨rfl, rfl⟩ := trodVars_none hV
  obtain ⟨a0, rfl, rfl, rfl, w0⟩ := ChangeMaps.open_string Tryd.underlying9 (hval 0 9 v0 rfl rfl) h0
  clear hA0 hval0
  refine ((TapeReads_pure a0).calls (w := W) rfl ?_ hgl).mono fun e W' ⟨he, bel⟩ => ?_
  · intro i c u hc hu
    match i with
    | 0 => simp at hc hu; subst hc; subst hu; exact .v _
    | i + 1 => simp at hc
  subst he
  exact ⟨_, rfl, _, _, _, [], _, [], hW', trodAll_mk1 (shut_bool Tryd.underlying4 _), (trodAll_cons_mk (ChangeMaps.shut_string Tryd.underlying9 w0) trodAll_mk0), rfl, bel.frame _, fun h => by cases h⟩
theorem over : Rows.tapeReadsRow.holds Tryd.pinned (OpenSpec.ofChange Rows.tapeReadsSpec) :=
  OpenClaim.holds_of_wide 7 Tryd.f7 rfl rfl rfl rfl rfl rfl rfl ⟨rfl, rfl, rfl, rfl, rfl⟩ rfl rfl rfl rfl rfl (by kernel_rfl) Tryd.func7 (by kernel_rfl)
    (of_decide_eq_true (by kernel_rfl)) (by unfold Func.isWrapper; first | (rw [if_pos (by decide +kernel)]; kernel_rfl) | (rw [if_neg (by decide +kernel)]; exact ⟨rfl, rfl⟩))
    (fun os started H enc _ => lifted os started H enc)
end Go.Proofs.YtmepcmphcghbeaaDoor.tapeReads
namespace Go.Proofs.YtmepcmphcghbeaaDoor
theorem tapeReads_proved : Rows.TapeReadsCardSaid :=
  Claim7.holds_tied_plain_at .later [] _ _ _ _ tapeReads.over (fun _ h => by cases h) (by kernel_rfl) (fun _ h => by cases h) tapeReads_row_tie rfl ⟨rfl, rfl⟩ (by kernel_rfl) rfl
    (fun f fn hf hfn => by
      obtain rfl : f = 7 := Option.some.inj ((show Tryd.prog.funcNamed "pangram/pangramlaw28.TapeReads" = some 7 by kernel_rfl).symm.trans hf) |>.symm
      obtain rfl : fn = Tryd.f7 := (Option.some.inj (Tryd.func7.symm.trans hfn)).symm
      refine ⟨by kernel_rfl, fun j t ht => ?_⟩
      rw [Tryd.params7] at ht
      have hm : t ∈ [9] := by simpa using Array.mem_of_getElem? ht
      have hall : ([9].all fun u => !Tryd.prog.wantsStandIn u) = true := by kernel_rfl
      have := List.all_eq_true.1 hall t hm
      have h9 : Tryd.prog.wantsStandIn t = false := by simpa using this
      exact h9)
    (by kernel_rfl)
#print axioms tapeReads_proved
end Go.Proofs.YtmepcmphcghbeaaDoor
