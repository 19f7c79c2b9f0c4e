/- Texts of the abstract walk, of the contracts and of the plain laws, packed (part 42 of 44): Sc17 Sc18. Conditions: none. -/
import Derived.Test.YtheacaigeidflaaDoorPk41
namespace Go.Proofs.YtheacaigeidflaaDoor
open Go Go.RowKit
set_option maxRecDepth 100000
set_option maxHeartbeats 4000000
set_option linter.unusedSimpArgs false
set_option linter.unusedVariables false
attribute [local irreducible] aops dRun
def bObs (q : AV) (bs : ByteArray) : List Ob := [.cells 81 [q, .own 1 bs.size], .row 5 1 (strRows bs)]
theorem strRows_data (bs : ByteArray) : ∀ x ∈ strRows bs, DataL x := fun x hx => by
  obtain ⟨y, _, rfl⟩ := List.mem_map.1 hx; exact .cons (.v _) .nil
theorem strRows_und {n : Nat} (bs : ByteArray) : ∀ x ∈ strRows bs, UndL n x := fun x hx => UndL.data (strRows_data bs x hx)
theorem Weak.noOs {st : St} : Weak st { st with os := [] } := Weak.mk (LeL.refl _) (fun _ _ h => by cases h) rfl rfl
theorem strRows_app (a b : ByteArray) : strRows a ++ strRows b = strRows (a ++ b) := by
  simp only [strRows, Lib.strCells, ← List.map_append]
  congr 2
theorem copyCheck0 (bs : ByteArray) : ACalls Tryd.prog 77 [.ptr 0 0] (enumO 0 (bObs (.v (.pointer none)) bs)) 2 fun r os n => (r = .tup [] ∧ os = enumO 0 (bObs (.ptr 0 0) bs)) ∧ n = 2 := by
  refine ACalls.clean (C := fun r os' => r = _ ∧ os' = _) ?_
  refine ACalls_intro Tryd.func77 (by kernel_rfl) rfl (by rw [Tryd.ntmps77]; simp) (fun hm => ?_)
  simp only [Tryd.ntmps77, Tryd.results77, List.length_cons, List.length_nil, Nat.reduceAdd, Nat.reduceSub, List.replicate_succ, List.replicate_zero, List.cons_append, List.nil_append]
  simp only [bObs, enumO, Nat.reduceAdd]
  refine AWp_seqK fun Y0 y0 => ?_
  refine AWp_region ?_
  iterate 4 (refine aops_chunk 1 fun Q0 q0 => ?_; simp only [↓bO, go_sem, seval]; refine q0 _ ?_; clear q0 Q0; simp only [go_sem])
  simp only [↓bO, go_sem, seval]
  refine y0 _ ?_
  try clear y0 Y0
  refine AWp_cond rfl (fun hb6 => ?_) (fun hb6 => ?_)
  ·
   refine AWp_midK 2 [_, _, _] [_, _, _] rfl fun Q0 q0 => ?_
   simp only [go_sem]
   refine aops_chunk 1 fun Q0 q0 => ?_
   simp only [↓bO, go_sem, seval]
   refine q0 _ ?_
   clear q0 Q0
   simp only [go_sem]
   simp only [↓bO, go_sem, seval]
   refine q0 _ ?_
   clear q0 Q0
   refine MidAt_selfPtr (id := 0) rfl rfl (by simp) (by simp) (by simp) (by kernel_rfl) Tryd.func86 rfl rfl (by kernel_rfl) (by kernel_rfl) ?_
   simp only [putO, bS, bA]
   iterate 2 (refine aops_chunk 1 fun Q0 q0 => ?_; simp only [↓bO, go_sem, seval]; refine q0 _ ?_; clear q0 Q0; simp only [go_sem])
   simp only [↓bO, go_sem, seval]
   try simp only [thenQ, blockQ, noGotoQ, retQ, aRes, tupOf, bS, bA]
   refine ⟨_, _, ⟨rfl, rfl⟩, .data dataTup0, ⟨by omega, ⟨.ptr (by omega), .own (by omega), trivial⟩, by omega, strRows_und _, trivial⟩, Le.refl _, ⟨0, rfl, rfl⟩, by omega⟩
  ·
   exact absurd hb6 (by decide)
theorem copyCheck1 (bs : ByteArray) : ACalls Tryd.prog 77 [.ptr 0 0] (enumO 0 (bObs (.ptr 0 0) bs)) 2 fun r os n => (r = .tup [] ∧ os = enumO 0 (bObs (.ptr 0 0) bs)) ∧ n = 2 := by
  refine ACalls.clean (C := fun r os' => r = _ ∧ os' = _) ?_
  refine ACalls_intro Tryd.func77 (by kernel_rfl) rfl (by rw [Tryd.ntmps77]; simp) (fun hm => ?_)
  simp only [Tryd.ntmps77, Tryd.results77, List.length_cons, List.length_nil, Nat.reduceAdd, Nat.reduceSub, List.replicate_succ, List.replicate_zero, List.cons_append, List.nil_append]
  simp only [bObs, enumO, Nat.reduceAdd]
  refine AWp_seqK fun Y0 y0 => ?_
  refine AWp_region ?_
  iterate 4 (refine aops_chunk 1 fun Q0 q0 => ?_; simp only [↓bO, go_sem, seval]; refine q0 _ ?_; clear q0 Q0; simp only [go_sem])
  simp only [↓bO, go_sem, seval]
  refine y0 _ ?_
  try clear y0 Y0
  refine AWp_cond rfl (fun hb6 => ?_) (fun hb6 => ?_)
  ·
   exact absurd hb6 (by decide)
  ·
   refine AWp_seqK fun Y0 y0 => ?_
   refine AWp_midK 5 [_] [] rfl fun Q0 q0 => ?_
   iterate 4 (simp only [go_sem]; refine aops_chunk 1 fun Q0 q0 => ?_; simp only [↓bO, go_sem, seval]; refine q0 _ ?_; clear q0 Q0)
   simp only [go_sem]
   simp only [↓bO, go_sem, seval]
   refine q0 _ ?_
   clear q0 Q0
   refine MidAt_neqSelf (id := 0) (off := 0) rfl rfl (by kernel_rfl) ?_
   simp only [putO, bS, bA, aops, thenQ, blockQ, noGotoQ]
   refine y0 _ ?_
   try clear y0 Y0
   refine AWp_cond rfl (fun hb19 => ?_) (fun hb19 => ?_)
   ·
    exact absurd hb19 (by decide)
   ·
    refine AWp_skip ?_
    try simp only [thenQ, blockQ, noGotoQ]
    try simp only [thenQ, blockQ, noGotoQ, retQ, aRes, tupOf, bS, bA]
    refine ⟨_, _, ⟨rfl, rfl⟩, .data dataTup0, ⟨by omega, ⟨.ptr (by omega), .own (by omega), trivial⟩, by omega, strRows_und _, trivial⟩, Le.refl _, ⟨0, rfl, rfl⟩, by omega⟩
theorem WriteString0 (bs s : ByteArray) (h0 : 0 < s.size) (hl : bs.size + s.size ≤ 1048576) : ACalls Tryd.prog 54 [.ptr 0 0, .v (.string s)] (enumO 0 (bObs (.v (.pointer none)) bs)) 2 fun r os n => (r = .tup [.v (.int .i64 s.size), .v .nilIface] ∧ os = enumO 0 (bObs (.ptr 0 0) (bs ++ s))) ∧ n = 2 := by
  refine ACalls.clean (C := fun r os' => r = _ ∧ os' = _) ?_
  refine ACalls_intro Tryd.func54 (by kernel_rfl) rfl (by rw [Tryd.ntmps54]; simp) (fun hm => ?_)
  simp only [Tryd.ntmps54, Tryd.results54, List.length_cons, List.length_nil, Nat.reduceAdd, Nat.reduceSub, List.replicate_succ, List.replicate_zero, List.cons_append, List.nil_append]
  simp only [bObs, enumO, Nat.reduceAdd]
  refine AWp_seqK fun Y0 y0 => ?_
  refine AWp_region ?_
  refine aops_chunk 1 fun Q0 q0 => ?_
  simp only [↓bO, go_sem, seval, strRows_len, strRows_app, ByteArray.size_append]
  refine q0 _ ?_
  clear q0 Q0
  simp only [go_sem]
  simp only [↓bO, go_sem, seval, strRows_len, strRows_app, ByteArray.size_append]
  refine y0 _ ?_
  try clear y0 Y0
  refine AWp_seqK fun Y0 y0 => ?_
  refine AWp_region ?_
  refine aops_chunk 1 fun Q0 q0 => ?_
  simp only [↓bO, go_sem, seval, strRows_len, strRows_app, ByteArray.size_append]
  refine q0 _ ?_
  clear q0 Q0
  simp only [go_sem]
  simp only [↓bO, go_sem, seval, strRows_len, strRows_app, ByteArray.size_append]
  refine ACalls.mono (copyCheck0 bs) ?_
  rintro z os2 nx2 ⟨⟨rfl, rfl⟩, rfl⟩
  simp only [bObs, enumO, Nat.reduceAdd]
  try simp only [bS, bA, thenQ, blockQ, noGotoQ]
  refine y0 _ ?_
  try clear y0 Y0
  refine AWp_seqK fun Y0 y0 => ?_
  refine AWp_midK 6 [_] [_, _, _] rfl fun Q0 q0 => ?_
  iterate 5 (simp only [go_sem]; refine aops_chunk 1 fun Q0 q0 => ?_; simp only [↓bO, go_sem, seval, strRows_len, strRows_app, ByteArray.size_append]; refine q0 _ ?_; clear q0 Q0)
  simp only [go_sem]
  simp only [↓bO, go_sem, seval, strRows_len, strRows_app, ByteArray.size_append]
  refine q0 _ ?_
  clear q0 Q0
  refine MidAt_appendStr (id := 1) rfl rfl rfl (strRows_len _).symm ei79 (by kernel_rfl) h0 (by rw [strRows_len]; omega) (by rw [strRows_len]; simp only [maxLen]; omega) ?_
  simp only [putO, bS, bA, strRows_len, strRows_app, ByteArray.size_append]
  iterate 2 (refine aops_chunk 1 fun Q0 q0 => ?_; simp only [↓bO, go_sem, seval, strRows_len, strRows_app, ByteArray.size_append]; refine q0 _ ?_; clear q0 Q0; simp only [go_sem])
  simp only [↓bO, go_sem, seval, strRows_len, strRows_app, ByteArray.size_append]
  refine y0 _ ?_
  try clear y0 Y0
  refine AWp_seqK fun Y0 y0 => ?_
  refine AWp_region ?_
  iterate 3 (refine aops_chunk 1 fun Q0 q0 => ?_; simp only [↓bO, go_sem, seval, strRows_len, strRows_app, ByteArray.size_append]; refine q0 _ ?_; clear q0 Q0; simp only [go_sem])
  simp only [↓bO, go_sem, seval, strRows_len, strRows_app, ByteArray.size_append]
  refine y0 _ ?_
  try clear y0 Y0
  refine AWp_ret ?_
  try simp only [thenQ, blockQ, noGotoQ, retQ, aRes, tupOf, bS, bA]
  refine ⟨_, [(0, .cells 81 [.ptr 0 0, .own 1 (bs ++ s).size]), (1, .row 5 1 (strRows (bs ++ s)))], ⟨rfl, by first | rfl | simp only [ByteArray.size_append]⟩, .data (.tup (.cons (.v _) (.cons (.v _) .nil))), ⟨by omega, ⟨.ptr (by omega), .own (by omega), trivial⟩, by omega, strRows_und _, trivial⟩, Le.refl _, ⟨0, by (rw [ByteArray.size_append]; rfl), rfl⟩, by omega⟩
theorem WriteString1 (bs s : ByteArray) (h0 : 0 < s.size) (hl : bs.size + s.size ≤ 1048576) : ACalls Tryd.prog 54 [.ptr 0 0, .v (.string s)] (enumO 0 (bObs (.ptr 0 0) bs)) 2 fun r os n => (r = .tup [.v (.int .i64 s.size), .v .nilIface] ∧ os = enumO 0 (bObs (.ptr 0 0) (bs ++ s))) ∧ n = 2 := by
  refine ACalls.clean (C := fun r os' => r = _ ∧ os' = _) ?_
  refine ACalls_intro Tryd.func54 (by kernel_rfl) rfl (by rw [Tryd.ntmps54]; simp) (fun hm => ?_)
  simp only [Tryd.ntmps54, Tryd.results54, List.length_cons, List.length_nil, Nat.reduceAdd, Nat.reduceSub, List.replicate_succ, List.replicate_zero, List.cons_append, List.nil_append]
  simp only [bObs, enumO, Nat.reduceAdd]
  refine AWp_seqK fun Y0 y0 => ?_
  refine AWp_region ?_
  refine aops_chunk 1 fun Q0 q0 => ?_
  simp only [↓bO, go_sem, seval, strRows_len, strRows_app, ByteArray.size_append]
  refine q0 _ ?_
  clear q0 Q0
  simp only [go_sem]
  simp only [↓bO, go_sem, seval, strRows_len, strRows_app, ByteArray.size_append]
  refine y0 _ ?_
  try clear y0 Y0
  refine AWp_seqK fun Y0 y0 => ?_
  refine AWp_region ?_
  refine aops_chunk 1 fun Q0 q0 => ?_
  simp only [↓bO, go_sem, seval, strRows_len, strRows_app, ByteArray.size_append]
  refine q0 _ ?_
  clear q0 Q0
  simp only [go_sem]
  simp only [↓bO, go_sem, seval, strRows_len, strRows_app, ByteArray.size_append]
  refine ACalls.mono (copyCheck1 bs) ?_
  rintro z os2 nx2 ⟨⟨rfl, rfl⟩, rfl⟩
  simp only [bObs, enumO, Nat.reduceAdd]
  try simp only [bS, bA, thenQ, blockQ, noGotoQ]
  refine y0 _ ?_
  try clear y0 Y0
  refine AWp_seqK fun Y0 y0 => ?_
  refine AWp_midK 6 [_] [_, _, _] rfl fun Q0 q0 => ?_
  iterate 5 (simp only [go_sem]; refine aops_chunk 1 fun Q0 q0 => ?_; simp only [↓bO, go_sem, seval, strRows_len, strRows_app, ByteArray.size_append]; refine q0 _ ?_; clear q0 Q0)
  simp only [go_sem]
  simp only [↓bO, go_sem, seval, strRows_len, strRows_app, ByteArray.size_append]
  refine q0 _ ?_
  clear q0 Q0
  refine MidAt_appendStr (id := 1) rfl rfl rfl (strRows_len _).symm ei79 (by kernel_rfl) h0 (by rw [strRows_len]; omega) (by rw [strRows_len]; simp only [maxLen]; omega) ?_
  simp only [putO, bS, bA, strRows_len, strRows_app, ByteArray.size_append]
  iterate 2 (refine aops_chunk 1 fun Q0 q0 => ?_; simp only [↓bO, go_sem, seval, strRows_len, strRows_app, ByteArray.size_append]; refine q0 _ ?_; clear q0 Q0; simp only [go_sem])
  simp only [↓bO, go_sem, seval, strRows_len, strRows_app, ByteArray.size_append]
  refine y0 _ ?_
  try clear y0 Y0
  refine AWp_seqK fun Y0 y0 => ?_
  refine AWp_region ?_
  iterate 3 (refine aops_chunk 1 fun Q0 q0 => ?_; simp only [↓bO, go_sem, seval, strRows_len, strRows_app, ByteArray.size_append]; refine q0 _ ?_; clear q0 Q0; simp only [go_sem])
  simp only [↓bO, go_sem, seval, strRows_len, strRows_app, ByteArray.size_append]
  refine y0 _ ?_
  try clear y0 Y0
  refine AWp_ret ?_
  try simp only [thenQ, blockQ, noGotoQ, retQ, aRes, tupOf, bS, bA]
  refine ⟨_, [(0, .cells 81 [.ptr 0 0, .own 1 (bs ++ s).size]), (1, .row 5 1 (strRows (bs ++ s)))], ⟨rfl, by first | rfl | simp only [ByteArray.size_append]⟩, .data (.tup (.cons (.v _) (.cons (.v _) .nil))), ⟨by omega, ⟨.ptr (by omega), .own (by omega), trivial⟩, by omega, strRows_und _, trivial⟩, Le.refl _, ⟨0, by (rw [ByteArray.size_append]; rfl), rfl⟩, by omega⟩
theorem String_c (q : AV) (bs : ByteArray) (h0 : 0 < bs.size) : ACalls Tryd.prog 57 [.ptr 0 0] (enumO 0 (bObs q bs)) 2 fun r os n => (r = .v (.string bs) ∧ os = []) ∧ n = 2 := by
  refine ACalls.clean (C := fun r os' => r = _ ∧ os' = _) ?_
  refine ACalls_intro Tryd.func57 (by kernel_rfl) rfl (by rw [Tryd.ntmps57]; simp) (fun hm => ?_)
  simp only [Tryd.ntmps57, Tryd.results57, List.length_cons, List.length_nil, Nat.reduceAdd, Nat.reduceSub, List.replicate_succ, List.replicate_zero, List.cons_append, List.nil_append]
  simp only [bObs, enumO, Nat.reduceAdd]
  refine AWp_seqK fun Y0 y0 => ?_
  refine AWp_region ?_
  simp only [↓bO, go_sem, seval, strRows_len, delO, List.filter_cons, List.filter_nil, Nat.reduceBEq]
  refine y0 _ ?_
  try clear y0 Y0
  refine AWp_seqK fun Y0 y0 => ?_
  refine AAny_start [(0, 1, [.own 1 bs.size])] 12 rfl mixed (⟨⟨_, _, rfl, by simp, rfl, (strRows_len _).symm, trivial⟩, trivial⟩) rfl ?_
  dsimp only
  refine AAny_takeK 0 rfl (by kernel_rfl) (by kernel_rfl) (by kernel_rfl) (fun _ _ h => h) fun Q0 q0 => ?_
  simp only [↓bO, go_sem, seval, strRows_len, delO, List.filter_cons, List.filter_nil, Nat.reduceBEq]
  refine q0 _ ?_
  clear q0 Q0
  refine AAny_takeK 1 rfl (by kernel_rfl) (by kernel_rfl) (by kernel_rfl) (fun _ _ h => h) fun Q0 q0 => ?_
  simp only [↓bO, go_sem, seval, strRows_len, delO, List.filter_cons, List.filter_nil, Nat.reduceBEq]
  refine q0 _ ?_
  clear q0 Q0
  refine AAny_takeK 2 rfl (by kernel_rfl) (by kernel_rfl) (by kernel_rfl) (fun _ _ h => h) fun Q0 q0 => ?_
  simp only [↓bO, go_sem, seval, strRows_len, delO, List.filter_cons, List.filter_nil, Nat.reduceBEq]
  refine q0 _ ?_
  clear q0 Q0
  refine AAny_loadK 3 0 rfl rfl (by kernel_rfl) (by kernel_rfl) (by kernel_rfl) (fun _ _ h => h) fun Q0 q0 => ?_
  simp only [↓bO, go_sem, seval, strRows_len, delO, List.filter_cons, List.filter_nil, Nat.reduceBEq]
  refine q0 _ ?_
  clear q0 Q0
  refine AAny_dataOwn (id := 1) 4 rfl (by kernel_rfl) (by kernel_rfl) (by kernel_rfl) (fun _ _ h => h) rfl rfl (strRows_len _).symm h0 ?_
  simp only [bS, bA, putO, strRows_len, delO, List.filter_cons, List.filter_nil, Nat.reduceBEq]
  refine AAny_takeK 5 rfl (by kernel_rfl) (by kernel_rfl) (by kernel_rfl) (fun _ _ h => h) fun Q0 q0 => ?_
  simp only [↓bO, go_sem, seval, strRows_len, delO, List.filter_cons, List.filter_nil, Nat.reduceBEq]
  refine q0 _ ?_
  clear q0 Q0
  refine AAny_takeK 6 rfl (by kernel_rfl) (by kernel_rfl) (by kernel_rfl) (fun _ _ h => h) fun Q0 q0 => ?_
  simp only [↓bO, go_sem, seval, strRows_len, delO, List.filter_cons, List.filter_nil, Nat.reduceBEq]
  refine q0 _ ?_
  clear q0 Q0
  refine AAny_takeK 7 rfl (by kernel_rfl) (by kernel_rfl) (by kernel_rfl) (fun _ _ h => h) fun Q0 q0 => ?_
  simp only [↓bO, go_sem, seval, strRows_len, delO, List.filter_cons, List.filter_nil, Nat.reduceBEq]
  refine q0 _ ?_
  clear q0 Q0
  refine AAny_loadK 8 0 rfl rfl (by kernel_rfl) (by kernel_rfl) (by kernel_rfl) (fun _ _ h => h) fun Q0 q0 => ?_
  simp only [↓bO, go_sem, seval, strRows_len, delO, List.filter_cons, List.filter_nil, Nat.reduceBEq]
  refine q0 _ ?_
  clear q0 Q0
  refine AAny_lenOwn (id := 1) 9 rfl (by kernel_rfl) (by kernel_rfl) (by kernel_rfl) (fun _ _ h => h) rfl rfl (strRows_len _).symm (by kernel_rfl) ?_
  simp only [bS, bA, putO, strRows_len, delO, List.filter_cons, List.filter_nil, Nat.reduceBEq]
  refine AAny_str (i := 10) (id := 1) (by kernel_rfl) rfl rfl rfl rfl rfl h0 (by kernel_rfl) (by kernel_rfl) ?_
  simp only [bS, bA, putO, strRows_len, delO, List.filter_cons, List.filter_nil, Nat.reduceBEq]
  refine AAny_takeK 11 rfl (by kernel_rfl) (by kernel_rfl) (by kernel_rfl) (fun _ _ h => h) fun Q0 q0 => ?_
  simp only [↓bO, go_sem, seval, strRows_len, delO, List.filter_cons, List.filter_nil, Nat.reduceBEq]
  refine q0 _ ?_
  clear q0 Q0
  refine AAny_done (by kernel_rfl) ?_
  simp only [thenQ, blockQ, noGotoQ]
  refine y0 _ ?_
  try clear y0 Y0
  refine AWp_weak Weak.noOs ?_
  refine AWp_ret ?_
  try simp only [thenQ, blockQ, noGotoQ, retQ, aRes, tupOf, bS, bA]
  refine ⟨_, [], ⟨rfl, rfl⟩, .v _ _, trivial, Le.refl _, ⟨0, rfl, rfl⟩, by omega⟩
theorem ACalls.eats2 {P : Program} {f : Nat} {args args' : List AV} {R : AV} {ob0 ob1 ob0' ob1' : Ob} {a b nx' : Nat} {os' : Os} {Q' : AV → Os → Nat → Prop}
    (h : ACalls P f args [(0, ob0), (1, ob1)] 2 fun r os n => (r = R ∧ os = []) ∧ n = 2) (hab : a ≠ b) (ha : a < nx') (hb : b < nx') (hargs : RenL (renOf [a, b] nx') args args') (hR : Data R) (hga : getO os' a = some ob0') (hgb : getO os' b = some ob1')
    (ho0 : RenO (renOf [a, b] nx') 0 ob0 ob0') (ho1 : RenO (renOf [a, b] nx') 1 ob1 ob1') (hq : Q' R (delO (delO os' b) a) nx') : ACalls P f args' os' nx' Q' := by
  refine h.frame (renOf [a, b] nx') (renOf_inj (by simpa using hab) (by simp; omega)) (fun j hj => ?_) (fun j hj => by rw [renOf_ge (by simpa using hj)]; rfl) hargs (fun j x hx => ?_) ?_
  · have : j = 0 ∨ j = 1 := by omega
    rcases this with rfl | rfl
    · exact ha
    · exact hb
  · simp only [getO] at hx
    split at hx
    · rename_i e; cases hx; subst e
      exact ⟨ob0', hga, ho0⟩
    · split at hx
      · rename_i e; cases hx; subst e
        exact ⟨ob1', hgb, ho1⟩
      · cases hx
  · rintro r os1 n1 ⟨⟨rfl, rfl⟩, rfl⟩
    refine ⟨r, delO (delO os' b) a, .data hR, by simpa using hq, fun id ob2 hgo => .inr ?_⟩
    rw [getO_delO, getO_delO] at hgo
    split at hgo
    · cases hgo
    · rename_i hne
      split at hgo
      · cases hgo
      · rename_i hne2
        refine ⟨hgo, ?_⟩
        rintro ⟨j, hj, hj1⟩
        have : j = 0 ∨ j = 1 := by omega
        rcases this with rfl | rfl
        · exact hne hj.symm
        · exact hne2 hj.symm
def bq (a : Nat) (z : Bool) : AV := if z then .ptr a 0 else .v (.pointer none)
theorem bq_ren {a b nx : Nat} (z : Bool) : RenV (renOf [a, b] nx) (bq 0 z) (bq a z) := by
  cases z
  · exact .v _
  · exact .ptr rfl
theorem WriteString_c (z : Bool) (bs s : ByteArray) (h0 : 0 < s.size) (hl : bs.size + s.size ≤ 1048576) : ACalls Tryd.prog 54 [.ptr 0 0, .v (.string s)] (enumO 0 (bObs (bq 0 z) bs)) 2 fun r os n => (r = .tup [.v (.int .i64 s.size), .v .nilIface] ∧ os = enumO 0 (bObs (bq 0 true) (bs ++ s))) ∧ n = 2 := by
  cases z
  · exact WriteString0 bs s h0 hl
  · exact WriteString1 bs s h0 hl
theorem WriteString_at {os' : Os} {nx' : Nat} {Q' : AV → Os → Nat → Prop} (a b : Nat) (z : Bool) (bs s : ByteArray) (h0 : 0 < s.size) (hl : bs.size + s.size ≤ 1048576) (hab : a ≠ b) (ha : getO os' a = some (.cells 81 [bq a z, .own b bs.size])) (hb : getO os' b = some (.row 5 1 (strRows bs))) (hn : a < nx' ∧ b < nx')
    (hq : Q' (.tup [.v (.int .i64 s.size), .v .nilIface]) (putO (putO os' a (.cells 81 [bq a true, .own b (bs ++ s).size])) b (.row 5 1 (strRows (bs ++ s)))) nx') : ACalls Tryd.prog 54 [.ptr a 0, .v (.string s)] os' nx' Q' := by
  refine ACalls.at (args := [.ptr 0 0, .v (.string s)]) (obs := bObs (bq 0 z) bs) (obs1 := bObs (bq 0 true) (bs ++ s)) (obs' := [.cells 81 [bq a z, .own b bs.size], .row 5 1 (strRows bs)]) (obs1' := [.cells 81 [bq a true, .own b (bs ++ s).size], .row 5 1 (strRows (bs ++ s))]) (R' := .tup [.v (.int .i64 s.size), .v .nilIface]) [a, b] ?_ rfl rfl (by simpa using hab) (by simp; omega) ⟨.ptr rfl, .v _, trivial⟩ (.data (.tup (.cons (.v _) (.cons (.v _) .nil)))) ⟨.cells ⟨bq_ren z, .own rfl, trivial⟩, .row (strRows_data _), trivial⟩ ⟨ha, hb, trivial⟩ ⟨.cells ⟨bq_ren true, .own rfl, trivial⟩, .row (strRows_data _), trivial⟩ hq
  exact (WriteString_c z bs s h0 hl).mono fun r os n ⟨⟨h1, h2⟩, h3⟩ => ⟨h1, h2, h3⟩
theorem String_at {os' : Os} {nx' : Nat} {Q' : AV → Os → Nat → Prop} (a b : Nat) (z : Bool) (bs : ByteArray) (h0 : 0 < bs.size) (hab : a ≠ b) (ha : getO os' a = some (.cells 81 [bq a z, .own b bs.size])) (hb : getO os' b = some (.row 5 1 (strRows bs))) (hn : a < nx' ∧ b < nx')
    (hq : Q' (.v (.string bs)) (delO (delO os' b) a) nx') : ACalls Tryd.prog 57 [.ptr a 0] os' nx' Q' :=
  ACalls.eats2 (String_c (bq 0 z) bs h0) hab hn.1 hn.2 ⟨.ptr rfl, trivial⟩ (.v _) ha hb (.cells ⟨bq_ren z, .own rfl, trivial⟩) (.row (strRows_data _)) hq
def catB (nm : Int → ByteArray) (l : List Int) : ByteArray := l.foldl (fun b v => b ++ (nm v ++ ⟨#[32]⟩)) ⟨#[]⟩
theorem catB_step {nm : Int → ByteArray} {l : List Int} {s : Nat} {v : Int} (h : l[s]? = some v) : catB nm (l.take (s + 1)) = catB nm (l.take s) ++ (nm v ++ ⟨#[32]⟩) := by
  unfold catB; rw [List.take_add_one, h, List.foldl_append]; rfl
theorem catB_size {nm : Int → ByteArray} {l : List Int} (h : ∀ v ∈ l, (nm v).size ≤ 64) : ∀ s : Nat, (catB nm (l.take s)).size ≤ 65 * s
  | 0 => by simp [catB, ByteArray.size]
  | s + 1 => by
    cases hv : l[s]? with
    | none =>
      have h1 : l.length ≤ s := by simpa using hv
      have h9 := catB_size h s
      rw [List.take_of_length_le (by omega)] at h9 ⊢
      omega
    | some v =>
      have h9 := catB_size h s
      have h8 := h v (List.mem_of_getElem? hv)
      rw [catB_step hv, ByteArray.size_append, ByteArray.size_append]
      have : (⟨#[32]⟩ : ByteArray).size = 1 := rfl
      omega
theorem catB_pos {nm : Int → ByteArray} {l : List Int} (hl : 0 < l.length) : 0 < (catB nm l).size := by
  have h1 : l[l.length - 1]? = some l[l.length - 1] := List.getElem?_eq_getElem (by omega)
  have h2 := catB_step (nm := nm) h1
  rw [show l.length - 1 + 1 = l.length from by omega, List.take_length] at h2
  rw [h2, ByteArray.size_append, ByteArray.size_append]
  have : (⟨#[32]⟩ : ByteArray).size = 1 := rfl
  omega
theorem bq_und {n : Nat} {z : Bool} : Und (n + 2) (bq 1 z) := by
  cases z
  · exact .v _ _
  · exact .ptr (by omega)
theorem SPrint_c (s0 c : Sch) (nm : Int → ByteArray) (X Y : ByteArray) (hcan : APure Tryd.prog 50 [.agg s0.cells] (.agg c.cells)) (hn : ∀ v ∈ c.vs, APure Tryd.prog 55 [.v (.int .i64 v)] (.v (.string (nm v)))) (hz : ∀ v ∈ c.vs, (nm v).size ≤ 64) (hvl : c.vs.length ≤ 8192) (htr : 0 < c.vs.length → APure Tryd.prog 56 [.v (.string (catB nm c.vs)), .v (.string ⟨#[32]⟩)] (.v (.string X))) (hpr : APure Tryd.prog 58 [.agg c.t.cells] (.v (.string Y))) (hX : X.size ≤ 1099511627776) (hY : Y.size ≤ 1099511627776) : APure Tryd.prog 30 [.agg s0.cells] (.v (.string (if 0 < c.vs.length then X ++ ⟨#[46, 32]⟩ ++ Y else Y))) := by
  refine APure.mkL (.cons Sch.agg .nil) (.v _) ?_
  refine ACalls_intro Tryd.func30 (by kernel_rfl) rfl (by rw [Tryd.ntmps30]; simp) (fun hm => ?_)
  simp only [Tryd.ntmps30, Tryd.results30, List.length_cons, List.length_nil, Nat.reduceAdd, Nat.reduceSub, List.replicate_succ, List.replicate_zero, List.cons_append, List.nil_append]
  have hdr0 : List.drop 3 s0.t.cells = [] := by rw [Ty.cells_eq]; rfl
  have hxm : IntKind.i64.max = 9223372036854775807 := rfl
  have hs1 : #[(32 : UInt8)].size = 1 := rfl
  have hs2 : #[(46 : UInt8), 32].size = 2 := rfl
  refine AWp_seqK fun Y0 y0 => ?_
  refine AWp_region ?_
  refine aops_chunk 1 fun Q0 q0 => ?_
  simp only [↓bO, go_sem, seval, Sch.cells, hdr0, ByteArray.size_append, Int.natCast_add]
  refine q0 _ ?_
  clear q0 Q0
  simp only [go_sem]
  simp only [↓bO, go_sem, seval, Sch.cells, hdr0, ByteArray.size_append, Int.natCast_add]
  refine y0 _ ?_
  try clear y0 Y0
  refine AWp_seqK fun Y0 y0 => ?_
  refine AWp_region ?_
  refine aops_chunk 1 fun Q0 q0 => ?_
  simp only [↓bO, go_sem, seval, Sch.cells, hdr0, ByteArray.size_append, Int.natCast_add]
  refine q0 _ ?_
  clear q0 Q0
  simp only [go_sem]
  refine aops_chunk 1 fun Q0 q0 => ?_
  simp only [↓bO, go_sem, seval, Sch.cells, hdr0, ByteArray.size_append, Int.natCast_add]
  refine APure.call (hcan) ?_
  try simp only [bS, bA, thenQ, blockQ, noGotoQ]
  refine q0 _ ?_
  clear q0 Q0
  simp only [go_sem]
  simp only [↓bO, go_sem, seval, Sch.cells, hdr0, ByteArray.size_append, Int.natCast_add]
  refine y0 _ ?_
  try clear y0 Y0
  refine AWp_seqK fun Y0 y0 => ?_
  refine AWp_region ?_
  simp only [↓bO, go_sem, seval, Sch.cells, hdr0, ByteArray.size_append, Int.natCast_add]
  refine y0 _ ?_
  try clear y0 Y0
  refine AWp_seqK fun Y0 y0 => ?_
  refine AWp_seqK fun Y1 y1 => ?_
  refine AWp_region ?_
  iterate 3 (refine aops_chunk 1 fun Q0 q0 => ?_; simp only [↓bO, go_sem, seval, Sch.cells, hdr0, ByteArray.size_append, Int.natCast_add]; refine q0 _ ?_; clear q0 Q0; simp only [go_sem])
  simp only [↓bO, go_sem, seval, Sch.cells, hdr0, ByteArray.size_append, Int.natCast_add]
  refine y1 _ ?_
  try clear y1 Y1
  refine AWp_block ?_
  refine AWp_weak (Weak.rowCell 5 1 1 (id := 1) rfl rfl) ?_
  simp only [putO, Nat.reduceEqDiff, ↓reduceIte, List.set_cons_zero, List.set_cons_succ]
  refine AWp_loopM (σ := Nat) (mB 34 3594) (fun s => s ≤ c.vs.length) (fun s => [(11, .v (.int .i64 (s : Int)))]) (fun s => [(1, .cells 81 [bq 1 (decide (0 < s)), .own 2 (catB nm (c.vs.take s)).size]), (2, .row 5 1 (strRows (catB nm (c.vs.take s))))]) (fun s => c.vs.length - s) 0 (by omega) ?_ (fun s hs => ?_)
  ·
   simp only [maskL, setsL, putsO, putO, mB, List.set_cons_zero, List.set_cons_succ, seval]
   exact Weak.mk (by simp only [go_sem, Le.refl, Le.any, Le.slNil, Int.natCast_add, Int.cast_ofNat_Int, Int.natCast_one]) (fun _ _ h => h) rfl rfl
  simp only [maskL, setsL, putsO, putO, mB, List.set_cons_zero, List.set_cons_succ, seval]
  refine AWp_seqK fun Y1 y1 => ?_
  refine AWp_region ?_
  simp only [↓bO, go_sem, seval, Sch.cells, hdr0, ByteArray.size_append, Int.natCast_add]
  refine y1 _ ?_
  try clear y1 Y1
  refine AWp_seqK fun Y1 y1 => ?_
  refine AWp_cond rfl (fun hb12 => ?_) (fun hb12 => ?_)
  ·
   have hk : s < c.vs.length := by simpa using hb12
   obtain ⟨p, hp⟩ : ∃ p, c.vs[s]? = some p := ⟨_, List.getElem?_eq_getElem hk⟩
   have hpm := List.mem_of_getElem? hp
   have hst := catB_step (nm := nm) hp
   have hsz := catB_size hz s
   have hpz := hz p hpm
   have h32 : (⟨#[32]⟩ : ByteArray).size = 1 := rfl
   have hz1 : decide (0 < s + 1) = true := by simp
   have hw : IntKind.i64.wrap ((s : Int) + 1) = (s : Int) + 1 := wrap_in (by omega) (by omega)
   have hi1 : (((nm p).size : Int) + (#[(32 : UInt8)].size : Int) ≤ IntKind.i64.max) = True := eq_true (by rw [hs1, hxm]; omega)
   refine AWp_skip ?_
   try simp only [thenQ, blockQ, noGotoQ]
   refine y1 _ ?_
   try clear y1 Y1
   refine AWp_seqK fun Y1 y1 => ?_
   refine AWp_block ?_
   refine AWp_seqK fun Y2 y2 => ?_
   refine AWp_region ?_
   iterate 2 (refine aops_chunk 1 fun Q0 q0 => ?_; simp only [↓bO, go_sem, seval, Sch.cells, hdr0, ByteArray.size_append, Int.natCast_add, hk, gM hp, hw, intC, hz1, hst, hi1]; refine q0 _ ?_; clear q0 Q0; simp only [go_sem])
   simp only [↓bO, go_sem, seval, Sch.cells, hdr0, ByteArray.size_append, Int.natCast_add, hk, gM hp, hw, intC, hz1, hst, hi1]
   refine y2 _ ?_
   try clear y2 Y2
   refine AWp_region ?_
   refine aops_chunk 1 fun Q0 q0 => ?_
   simp only [↓bO, go_sem, seval, Sch.cells, hdr0, ByteArray.size_append, Int.natCast_add, hk, gM hp, hw, intC, hz1, hst, hi1]
   refine q0 _ ?_
   clear q0 Q0
   simp only [go_sem]
   refine aops_chunk 1 fun Q0 q0 => ?_
   simp only [↓bO, go_sem, seval, Sch.cells, hdr0, ByteArray.size_append, Int.natCast_add, hk, gM hp, hw, intC, hz1, hst, hi1]
   refine APure.call (hn p hpm) ?_
   try simp only [bS, bA, thenQ, blockQ, noGotoQ]
   refine q0 _ ?_
   clear q0 Q0
   simp only [go_sem]
   refine aops_chunk 1 fun Q0 q0 => ?_
   simp only [↓bO, go_sem, seval, Sch.cells, hdr0, ByteArray.size_append, Int.natCast_add, hk, gM hp, hw, intC, hz1, hst, hi1]
   refine q0 _ ?_
   clear q0 Q0
   simp only [go_sem]
   simp only [↓bO, go_sem, seval, Sch.cells, hdr0, ByteArray.size_append, Int.natCast_add, hk, gM hp, hw, intC, hz1, hst, hi1]
   refine WriteString_at 1 2 (decide (0 < s)) (catB nm (c.vs.take s)) (nm p ++ ⟨#[32]⟩) (by rw [ByteArray.size_append]; omega) (by rw [ByteArray.size_append]; omega) (by decide) ?_ ?_ ?_ ?_
   · rfl
   · rfl
   · first | omega | (simp only; omega)
   simp only [putO, Nat.reduceEqDiff, ↓reduceIte]
   try simp only [bS, bA, thenQ, blockQ, noGotoQ]
   refine y1 _ ?_
   try clear y1 Y1
   refine AWp_region ?_
   refine aops_chunk 1 fun Q0 q0 => ?_
   simp only [↓bO, go_sem, seval, Sch.cells, hdr0, ByteArray.size_append, Int.natCast_add, hk, gM hp, hw, intC, hz1, hst, hi1]
   refine q0 _ ?_
   clear q0 Q0
   simp only [go_sem]
   simp only [↓bO, go_sem, seval, Sch.cells, hdr0, ByteArray.size_append, Int.natCast_add, hk, gM hp, hw, intC, hz1, hst, hi1]
   refine ⟨(s + 1), by omega, by omega, ?_⟩
   simp only [maskL, setsL, putsO, putO, mB, List.set_cons_zero, List.set_cons_succ, seval, hk, gM hp, Int.natCast_add, Int.natCast_one, hw, intC, List.length_map, ByteArray.size_append, hz1, hst, hi1]
   exact Weak.mk (by simp only [go_sem, Le.refl, Le.any, Le.slNil, Int.natCast_add, Int.cast_ofNat_Int, Int.natCast_one]) (fun _ _ h => h) rfl rfl
  ·
   have hk : s = c.vs.length := by simp at hb12; omega
   have hct : c.vs.take s = c.vs := by rw [hk]; exact List.take_length
   refine AWp_exit ?_
   simp only [thenQ, blockQ, noGotoQ, bA, Nat.reduceEqDiff, ↓reduceIte]
   refine y0 _ ?_
   try clear y0 Y0
   refine AWp_seqK fun Y0 y0 => ?_
   refine AWp_joinZ (mB 34 8388618) ([(1, .eptr c.cells), (23, .v (.bool (decide ((c.vs.length : Int) > 0))))]) [(1, .cells 81 [bq 1 (decide (0 < s)), .own 2 (catB nm c.vs).size]), (2, .row 5 1 (strRows (catB nm c.vs)))] 3 (True) ?_ (fun hC => ?_)
   ·
    refine AWp_region ?_
    iterate 3 (refine aops_chunk 1 fun Q0 q0 => ?_; simp only [↓bO, go_sem, seval, Sch.cells, hdr0, ByteArray.size_append, Int.natCast_add, hct]; refine q0 _ ?_; clear q0 Q0; simp only [go_sem])
    simp only [↓bO, go_sem, seval, Sch.cells, hdr0, ByteArray.size_append, Int.natCast_add, hct]
    try simp only [maskL, setsL, putsO, putO, mB, List.set_cons_zero, List.set_cons_succ, seval]
    first | refine ⟨trivial, ?_⟩ | skip
    refine Weak.freeze ?_ ⟨rfl, rfl, trivial⟩ (by first | omega | (simp only; omega)) (by first | omega | (simp only; omega)) ?_ ?_
    · repeat' first | trivial | exact .inr ⟨_, _, _, rfl, rfl, rfl, rfl⟩ | exact .inl (.refl _) | exact .inl (.any _) | (refine ⟨?_, ?_⟩)
    · repeat' first | exact trivial | exact .any _ | exact .v _ _ | exact .ptr (by omega) | exact Und.data (dataInts _) | exact Und.data Sch.eptr | exact Und.data Sch.agg | exact Und.data (Ty.dataSl _) | exact Und.data (.eptr (Ty.data _)) | exact Und.data (.eptr (.cons (dataInts _) .nil)) | exact .own (by omega) | (refine ⟨?_, ?_⟩)
    · repeat' first | exact trivial | (with_reducible omega) | exact Und.rowI (iD_data _) | exact UndL.data (Ty.data _) | exact UndL.data (Sch.data _) | exact .v _ _ | exact bq_und | exact .own (by omega) | exact strRows_und _ | (refine ⟨?_, ?_⟩)
   simp only [maskL, setsL, putsO, putO, mB, List.set_cons_zero, List.set_cons_succ, seval]
   refine AWp_cond rfl (fun hb23 => ?_) (fun hb23 => ?_)
   ·
    have hps : 0 < c.vs.length := by simpa using hb23
    have hi2 : ((X.size : Int) + (#[(46 : UInt8), 32].size : Int) ≤ IntKind.i64.max) = True := eq_true (by rw [hs2, hxm]; omega)
    have hi3 : ((X.size : Int) + (#[(46 : UInt8), 32].size : Int) + (Y.size : Int) ≤ IntKind.i64.max) = True := eq_true (by rw [hs2, hxm]; omega)
    refine AWp_seqK fun Y1 y1 => ?_
    refine NAny_start 8 [1] rfl mixed ?_
    dsimp only
    refine NAny_takeK 3 rfl (by kernel_rfl) (by kernel_rfl) (by kernel_rfl) (fun _ _ h => h) (by kernel_rfl) (fun d h => by cases h; rfl) (by kernel_rfl) (G' := [27, 1]) (by kernel_rfl) fun Q0 q0 => ?_
    simp only [↓bO, go_sem, seval, nHead, isE, isSE, isV, Sch.cells, hdr0, ByteArray.size_append, Int.natCast_add, hct, hi2, hi3]
    refine q0 _ ?_
    clear q0 Q0
    refine NAny_takeK 4 rfl (by kernel_rfl) (by kernel_rfl) (by kernel_rfl) (fun _ _ h => h) (by kernel_rfl) (fun d h => by cases h; rfl) (by kernel_rfl) (G' := [28, 27, 1]) (by kernel_rfl) fun Q0 q0 => ?_
    simp only [↓bO, go_sem, seval, nHead, isE, isSE, isV, Sch.cells, hdr0, ByteArray.size_append, Int.natCast_add, hct, hi2, hi3]
    refine q0 _ ?_
    clear q0 Q0
    refine NAny_all1 (i := 0) (by kernel_rfl) rfl (fun d h => by cases h; rfl) ?_
    refine aAt_op rfl rfl fun Q0 q0 => ?_
    simp only [↓bO, go_sem, seval, Sch.cells, hdr0, ByteArray.size_append, Int.natCast_add, hct, hi2, hi3]
    refine String_at 1 2 (decide (0 < s)) (catB nm c.vs) (catB_pos hps) (by decide) ?_ ?_ ?_ ?_
    · rfl
    · rfl
    · first | omega | (simp only; omega)
    simp only [delO, List.filter_cons, List.filter_nil, Nat.reduceBEq, Bool.not_true, Bool.not_false, Bool.false_eq_true, if_true, if_false]
    try simp only [bS, bA]
    refine q0 _ ⟨⟨rfl, rfl, rfl, trivial⟩, ?_⟩
    clear q0 Q0
    refine NAny_all1 (i := 1) (by kernel_rfl) rfl (fun d h => by cases h; rfl) ?_
    refine aAt_op rfl rfl fun Q0 q0 => ?_
    simp only [↓bO, go_sem, seval, Sch.cells, hdr0, ByteArray.size_append, Int.natCast_add, hct, hi2, hi3]
    refine APure.call (htr hps) ?_
    try simp only [bS, bA]
    refine q0 _ ⟨⟨rfl, rfl, rfl, trivial⟩, ?_⟩
    clear q0 Q0
    refine NAny_all2 (i := 2) (j := 5) (by kernel_rfl) rfl rfl (fun d h => by cases h; rfl) (fun d h => by cases h; rfl) ?_ ?_
    ·
     refine aAt_op rfl rfl fun Q0 q0 => ?_
     simp only [↓bO, go_sem, seval, Sch.cells, hdr0, ByteArray.size_append, Int.natCast_add, hct, hi2, hi3]
     refine q0 _ ⟨⟨rfl, rfl, rfl, trivial⟩, ?_⟩
     clear q0 Q0
     refine NAny_all1 (i := 5) (by kernel_rfl) rfl (fun d h => by cases h; rfl) ?_
     refine aAt_op rfl rfl fun Q0 q0 => ?_
     simp only [↓bO, go_sem, seval, Sch.cells, hdr0, ByteArray.size_append, Int.natCast_add, hct, hi2, hi3]
     refine APure.call (hpr) ?_
     try simp only [bS, bA]
     refine q0 _ ⟨⟨rfl, rfl, rfl, trivial⟩, ?_⟩
     clear q0 Q0
     refine NAny_all1 (i := 6) (by kernel_rfl) rfl (fun d h => by cases h; rfl) ?_
     refine aAt_op rfl rfl fun Q0 q0 => ?_
     simp only [↓bO, go_sem, seval, Sch.cells, hdr0, ByteArray.size_append, Int.natCast_add, hct, hi2, hi3]
     refine q0 _ ⟨⟨rfl, rfl, rfl, trivial⟩, ?_⟩
     clear q0 Q0
     refine NAny_all1 (i := 7) (by kernel_rfl) rfl (fun d h => by cases h; rfl) ?_
     refine aAt_op rfl rfl fun Q0 q0 => ?_
     simp only [↓bO, go_sem, seval, Sch.cells, hdr0, ByteArray.size_append, Int.natCast_add, hct, hi2, hi3]
     refine q0 _ ⟨⟨rfl, rfl, rfl, trivial⟩, ?_⟩
     clear q0 Q0
     refine NAny_done (by kernel_rfl) ?_
     simp only [thenQ, blockQ, noGotoQ]
     refine y1 _ ?_
     try clear y1 Y1
     refine AWp_ret ?_
     try simp only [thenQ, blockQ, noGotoQ, retQ, aRes, tupOf, bS, bA]
     rw [if_pos hps]
     exact Le.refl _
    ·
     refine aAt_op rfl rfl fun Q0 q0 => ?_
     simp only [↓bO, go_sem, seval, Sch.cells, hdr0, ByteArray.size_append, Int.natCast_add, hct, hi2, hi3]
     refine APure.call (hpr) ?_
     try simp only [bS, bA]
     refine q0 _ ⟨⟨rfl, rfl, rfl, trivial⟩, ?_⟩
     clear q0 Q0
     refine NAny_all1 (i := 2) (by kernel_rfl) rfl (fun d h => by cases h; rfl) ?_
     refine aAt_op rfl rfl fun Q0 q0 => ?_
     simp only [↓bO, go_sem, seval, Sch.cells, hdr0, ByteArray.size_append, Int.natCast_add, hct, hi2, hi3]
     refine q0 _ ⟨⟨rfl, rfl, rfl, trivial⟩, ?_⟩
     clear q0 Q0
     refine NAny_all1 (i := 6) (by kernel_rfl) rfl (fun d h => by cases h; rfl) ?_
     refine aAt_op rfl rfl fun Q0 q0 => ?_
     simp only [↓bO, go_sem, seval, Sch.cells, hdr0, ByteArray.size_append, Int.natCast_add, hct, hi2, hi3]
     refine q0 _ ⟨⟨rfl, rfl, rfl, trivial⟩, ?_⟩
     clear q0 Q0
     refine NAny_all1 (i := 7) (by kernel_rfl) rfl (fun d h => by cases h; rfl) ?_
     refine aAt_op rfl rfl fun Q0 q0 => ?_
     simp only [↓bO, go_sem, seval, Sch.cells, hdr0, ByteArray.size_append, Int.natCast_add, hct, hi2, hi3]
     refine q0 _ ⟨⟨rfl, rfl, rfl, trivial⟩, ?_⟩
     clear q0 Q0
     refine NAny_done (by kernel_rfl) ?_
     simp only [thenQ, blockQ, noGotoQ]
     refine y1 _ ?_
     try clear y1 Y1
     refine AWp_ret ?_
     try simp only [thenQ, blockQ, noGotoQ, retQ, aRes, tupOf, bS, bA]
     rw [if_pos hps]
     exact Le.refl _
   ·
    have hps : ¬ 0 < c.vs.length := by simpa using hb23
    refine AWp_skip ?_
    try simp only [thenQ, blockQ, noGotoQ]
    refine y0 _ ?_
    try clear y0 Y0
    refine AWp_seqK fun Y0 y0 => ?_
    refine AWp_region ?_
    iterate 2 (refine aops_chunk 1 fun Q0 q0 => ?_; simp only [↓bO, go_sem, seval, Sch.cells, hdr0, ByteArray.size_append, Int.natCast_add, hct]; refine q0 _ ?_; clear q0 Q0; simp only [go_sem])
    refine aops_chunk 1 fun Q0 q0 => ?_
    simp only [↓bO, go_sem, seval, Sch.cells, hdr0, ByteArray.size_append, Int.natCast_add, hct]
    refine APure.call (hpr) ?_
    try simp only [bS, bA, thenQ, blockQ, noGotoQ]
    refine q0 _ ?_
    clear q0 Q0
    simp only [go_sem]
    simp only [↓bO, go_sem, seval, Sch.cells, hdr0, ByteArray.size_append, Int.natCast_add, hct]
    refine y0 _ ?_
    try clear y0 Y0
    refine AWp_ret ?_
    try simp only [thenQ, blockQ, noGotoQ, retQ, aRes, tupOf, bS, bA]
    rw [if_neg hps]
    exact Le.refl _
end Go.Proofs.YtheacaigeidflaaDoor
