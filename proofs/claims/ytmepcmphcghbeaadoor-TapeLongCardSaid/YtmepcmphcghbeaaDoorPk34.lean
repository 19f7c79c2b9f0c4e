/- Texts of the abstract walk, of the contracts and of the plain laws, packed (part 34 of 48): Sg1 Sg2 TqL. Conditions: none. -/
import Derived.Test.YtmepcmphcghbeaaDoorPk33
namespace Go.Proofs.YtmepcmphcghbeaaDoor
open Go Go.RowKit
set_option maxRecDepth 100000
set_option maxHeartbeats 4000000
set_option linter.unusedSimpArgs false
set_option linter.unnecessarySimpa false
set_option linter.unusedVariables false
attribute [local irreducible] aops dRun
theorem all_not_of {α : Type} {f : α → Bool} {ps : List α} {i : Nat} {p : α} (hp : ps[i]? = some p) (h : f p = true) : ps.any f = true := List.any_eq_true.2 ⟨p, List.mem_of_getElem? hp, h⟩
theorem any_false_of {α : Type} {f : α → Bool} {ps : List α} (h : ∀ (i : Nat) (p : α), i < ps.length → ps[i]? = some p → f p = false) : ps.any f = false := by
  rw [← Bool.not_eq_true, List.any_eq_true]
  rintro ⟨p, hp, hf⟩
  obtain ⟨i, hi, e⟩ := List.mem_iff_getElem.1 hp
  rw [h i p hi (by rw [List.getElem?_eq_getElem hi, e])] at hf; cases hf
def idxI {α : Type} (g : α → Bool) (l : List α) : Int := if l.any g then (l.findIdx g : Int) else -1
theorem idxI_some {α : Type} {g : α → Bool} {l : List α} {i : Nat} {p : α} (hp : l[i]? = some p) (h : g p = true) (hb : ∀ (j : Nat) (q : α), j < i → l[j]? = some q → g q = false) : idxI g l = (i : Int) := by
  have hi : i < l.length := (List.getElem?_eq_some_iff.1 hp).1
  have e : l[i] = p := (List.getElem?_eq_some_iff.1 hp).2
  rw [idxI, if_pos (all_not_of hp h)]
  congr 1
  refine List.findIdx_eq hi |>.2 ⟨by rw [e]; exact h, fun j hj => ?_⟩
  exact hb j _ hj (List.getElem?_eq_getElem (by omega))
theorem idxI_none {α : Type} {g : α → Bool} {l : List α} (hb : ∀ (j : Nat) (q : α), j < l.length → l[j]? = some q → g q = false) : idxI g l = -1 := by
  rw [idxI, any_false_of hb]; rfl
theorem idxI_ge {α : Type} {g : α → Bool} {l : List α} : decide (idxI g l ≥ 0) = l.any g := by
  unfold idxI
  split
  · rename_i h; rw [h]; simp
  · rename_i h; simp at h; simp; exact h
theorem IndexByte_pure (s : ByteArray) (c : Int) : APure Tryd.prog 24 [.v (.string s), .v (.int .u8 c)] (.v (.int .i64 (Lib.indexByte s.data.toList c.toNat.toUInt8))) := by
  refine APure.ofCalls ⟨_, Tryd.func24, by kernel_rfl, by kernel_rfl⟩ (.cons (.v _) (.cons (.v _) .nil)) (.v _) fun E A w vs hgl hA hr => ?_
  obtain ⟨u, v, rfl, h1, h2⟩ := hr.two
  cases h1; cases h2
  refine (Tryd.strings_IndexByte s c w).mono ?_
  rintro e w' ⟨rfl, rfl⟩
  exact ⟨_, rfl, Below.refl _ _, .v _⟩
def kwT : ByteArray := ⟨#[32, 102, 117, 110, 32, 108, 101, 116, 32, 114, 101, 99, 32, 105, 110, 32, 105, 102, 32, 116, 104, 101, 110, 32, 101, 108, 115, 101, 32, 116, 114, 117, 101, 32, 102, 97, 108, 115, 101, 32, 105, 110, 116, 32, 98, 111, 111, 108, 32]⟩
def kwL : List ByteArray := (Lib.fields kwT.data.toList).map fun l => ⟨l.toArray⟩
theorem kw_ascii : ∀ (j : Nat) b, kwT.data.toList[j]? = some b → b.toNat < 128 := fun j b hj => by
  have h : (kwT.data.toList.all fun b => decide (b.toNat < 128)) = true := by kernel_rfl
  exact of_decide_eq_true (List.all_eq_true.1 h b (List.mem_of_getElem? hj))
theorem Fields_pure : APure Tryd.prog 60 [.v (.string kwT)] (.sl 1 (kwL.map strC)) := by
  refine APure.ofCalls ⟨_, Tryd.func60, by kernel_rfl, by kernel_rfl⟩ (.cons (.v _) .nil) (dataStrs _) fun E A w vs hgl hA hr => ?_
  obtain ⟨u, rfl, h1⟩ := hr.one
  obtain rfl := h1.str
  refine (Tryd.strings_Fields_laid kwT w (by decide) kw_ascii (hgl.tab gl_mem2 (by kernel_rfl) (by kernel_rfl))).mono ?_
  rintro e w' ⟨rfl, rfl⟩
  refine ⟨_, rfl, below_alloc w _, ?_⟩
  exact strs_new kwL hA 9 (of_decide_eq_true (by kernel_rfl))
def eqS (a b : ByteArray) : Bool := a.toList == b.toList
theorem eqS_iff {a b : ByteArray} : eqS a b = true ↔ a = b := by
  unfold eqS
  rw [beq_iff_eq, ByteArray.toList_eq, ByteArray.toList_eq]
  exact ⟨fun h => WideShapes.bytes_inj h, fun h => by rw [h]⟩
def kwB (s : ByteArray) : Bool := kwL.any fun x => eqS s x
def smI (c : Int) : Bool := decide (97 ≤ c ∧ c ≤ 122)
def dgI (c : Int) : Bool := decide (48 ≤ c ∧ c ≤ 57)
def inI (c : Int) : Bool := smI c || dgI c || c == 95
def runN (s : ByteArray) (a : Nat) (p : Int → Bool) : Nat := ((s.data.toList.drop a).takeWhile fun b => p b.toNat).length
theorem byte_at {s : ByteArray} {i : Nat} (h : i < s.size) : s.data.toList[i]? = some ((s[i]?).getD 0) := by
  have h1 : s[i]? = some s[i] := getElem?_pos s i h
  rw [h1]
  have h2 : i < s.data.toList.length := by rw [Array.length_toList]; exact h
  rw [List.getElem?_eq_getElem h2]
  rfl
theorem takeWhile_len {α : Type} (q : α → Bool) : ∀ (l : List α) (n : Nat), n ≤ l.length → (∀ (i : Nat) (x : α), i < n → l[i]? = some x → q x = true) → (∀ x, l[n]? = some x → q x = false) → (l.takeWhile q).length = n
  | [], n, h, _, _ => by simp at h; simp [h]
  | x :: l, 0, _, _, h2 => by simp [h2 x rfl]
  | x :: l, n + 1, h, h1, h2 => by
    rw [List.takeWhile_cons, if_pos (h1 0 x (by omega) rfl), List.length_cons, takeWhile_len q l n (by simpa using h) (fun i y hi hy => h1 (i + 1) y (by omega) (by simpa using hy)) (fun y hy => h2 y (by simpa using hy))]
theorem runN_eq {s : ByteArray} {a n : Nat} {p : Int → Bool} (h0 : a + n ≤ s.size) (h1 : ∀ i, i < n → p ((s[a + i]?).getD 0).toNat = true) (h2 : a + n < s.size → p ((s[a + n]?).getD 0).toNat = false) : runN s a p = n := by
  have hsz : s.data.toList.length = s.size := Array.length_toList
  unfold runN
  refine takeWhile_len _ _ _ (by rw [List.length_drop, hsz]; omega) (fun i x hi hx => ?_) fun x hx => ?_
  · rw [List.getElem?_drop, byte_at (by omega)] at hx
    cases hx; exact h1 i hi
  · rw [List.getElem?_drop] at hx
    have hlt : a + n < s.size := by have := (List.getElem?_eq_some_iff.1 hx).1; omega
    rw [byte_at hlt] at hx
    cases hx; exact h2 hlt
theorem small_pure (c : Int) : APure Tryd.prog 44 [.v (.int .u8 c)] (.v (.bool (smI c))) := by
  refine APure.mkL (.cons (.v _) .nil) (.v _) ?_
  refine ACalls_intro Tryd.func44 (by kernel_rfl) rfl (by rw [Tryd.ntmps44]; simp) (fun hm => ?_)
  simp only [Tryd.ntmps44, Tryd.results44, List.length_cons, List.length_nil, Nat.reduceAdd, Nat.reduceSub, List.replicate_succ, List.replicate_zero, List.cons_append, List.nil_append]
  refine AWp_seqK fun Y0 y0 => ?_
  refine AWp_region ?_
  simp only [↓bO, go_sem, seval]
  refine y0 _ ?_
  try clear y0 Y0
  refine AWp_seqK fun Y0 y0 => ?_
  refine AWp_region ?_
  iterate 3 (refine aops_chunk 1 fun Q0 q0 => ?_; simp only [↓bO, go_sem, seval]; refine q0 _ ?_; clear q0 Q0; simp only [go_sem])
  refine aops_case 5 rfl (fun hc5 => ?_) (fun hc5 => ?_)
  ·
   simp only [List.set_cons_zero, List.set_cons_succ]
   iterate 3 (refine aops_chunk 1 fun Q0 q0 => ?_; simp only [↓bO, go_sem, seval]; refine q0 _ ?_; clear q0 Q0; simp only [go_sem])
   simp only [↓bO, go_sem, seval]
   refine y0 _ ?_
   try clear y0 Y0
   refine AWp_ret ?_
   try simp only [thenQ, blockQ, noGotoQ, retQ, aRes, tupOf, bS, bA]
   refine Le.of_eq (congrArg (fun b => AV.v (.bool b)) ?_)
   rw [Bool.eq_iff_iff]
   simp only [smI, decide_eq_true_eq, decide_eq_false_iff_not, Bool.or_eq_true, beq_iff_eq, Bool.false_eq_true, beq_eq_false_iff_ne, ne_eq, false_iff, true_iff, iff_true, iff_false, Bool.true_eq_false, not_and, not_or, Int.not_le, ge_iff_le] at *
   try omega
  ·
   simp only [List.set_cons_zero, List.set_cons_succ]
   iterate 3 (refine aops_chunk 1 fun Q0 q0 => ?_; simp only [↓bO, go_sem, seval]; refine q0 _ ?_; clear q0 Q0; simp only [go_sem])
   simp only [↓bO, go_sem, seval]
   refine y0 _ ?_
   try clear y0 Y0
   refine AWp_ret ?_
   try simp only [thenQ, blockQ, noGotoQ, retQ, aRes, tupOf, bS, bA]
   refine Le.of_eq (congrArg (fun b => AV.v (.bool b)) ?_)
   rw [Bool.eq_iff_iff]
   simp only [smI, decide_eq_true_eq, decide_eq_false_iff_not, Bool.or_eq_true, beq_iff_eq, Bool.false_eq_true, beq_eq_false_iff_ne, ne_eq, false_iff, true_iff, iff_true, iff_false, Bool.true_eq_false, not_and, not_or, Int.not_le, ge_iff_le] at *
   try omega
theorem digit_pure (c : Int) : APure Tryd.prog 58 [.v (.int .u8 c)] (.v (.bool (dgI c))) := by
  refine APure.mkL (.cons (.v _) .nil) (.v _) ?_
  refine ACalls_intro Tryd.func58 (by kernel_rfl) rfl (by rw [Tryd.ntmps58]; simp) (fun hm => ?_)
  simp only [Tryd.ntmps58, Tryd.results58, List.length_cons, List.length_nil, Nat.reduceAdd, Nat.reduceSub, List.replicate_succ, List.replicate_zero, List.cons_append, List.nil_append]
  refine AWp_seqK fun Y0 y0 => ?_
  refine AWp_region ?_
  simp only [↓bO, go_sem, seval]
  refine y0 _ ?_
  try clear y0 Y0
  refine AWp_seqK fun Y0 y0 => ?_
  refine AWp_region ?_
  iterate 3 (refine aops_chunk 1 fun Q0 q0 => ?_; simp only [↓bO, go_sem, seval]; refine q0 _ ?_; clear q0 Q0; simp only [go_sem])
  refine aops_case 5 rfl (fun hc5 => ?_) (fun hc5 => ?_)
  ·
   simp only [List.set_cons_zero, List.set_cons_succ]
   iterate 3 (refine aops_chunk 1 fun Q0 q0 => ?_; simp only [↓bO, go_sem, seval]; refine q0 _ ?_; clear q0 Q0; simp only [go_sem])
   simp only [↓bO, go_sem, seval]
   refine y0 _ ?_
   try clear y0 Y0
   refine AWp_ret ?_
   try simp only [thenQ, blockQ, noGotoQ, retQ, aRes, tupOf, bS, bA]
   refine Le.of_eq (congrArg (fun b => AV.v (.bool b)) ?_)
   rw [Bool.eq_iff_iff]
   simp only [dgI, decide_eq_true_eq, decide_eq_false_iff_not, Bool.or_eq_true, beq_iff_eq, Bool.false_eq_true, beq_eq_false_iff_ne, ne_eq, false_iff, true_iff, iff_true, iff_false, Bool.true_eq_false, not_and, not_or, Int.not_le, ge_iff_le] at *
   try omega
  ·
   simp only [List.set_cons_zero, List.set_cons_succ]
   iterate 3 (refine aops_chunk 1 fun Q0 q0 => ?_; simp only [↓bO, go_sem, seval]; refine q0 _ ?_; clear q0 Q0; simp only [go_sem])
   simp only [↓bO, go_sem, seval]
   refine y0 _ ?_
   try clear y0 Y0
   refine AWp_ret ?_
   try simp only [thenQ, blockQ, noGotoQ, retQ, aRes, tupOf, bS, bA]
   refine Le.of_eq (congrArg (fun b => AV.v (.bool b)) ?_)
   rw [Bool.eq_iff_iff]
   simp only [dgI, decide_eq_true_eq, decide_eq_false_iff_not, Bool.or_eq_true, beq_iff_eq, Bool.false_eq_true, beq_eq_false_iff_ne, ne_eq, false_iff, true_iff, iff_true, iff_false, Bool.true_eq_false, not_and, not_or, Int.not_le, ge_iff_le] at *
   try omega
theorem inner_pure (c : Int) : APure Tryd.prog 46 [.v (.int .u8 c)] (.v (.bool (inI c))) := by
  refine APure.mkL (.cons (.v _) .nil) (.v _) ?_
  refine ACalls_intro Tryd.func46 (by kernel_rfl) rfl (by rw [Tryd.ntmps46]; simp) (fun hm => ?_)
  simp only [Tryd.ntmps46, Tryd.results46, List.length_cons, List.length_nil, Nat.reduceAdd, Nat.reduceSub, List.replicate_succ, List.replicate_zero, List.cons_append, List.nil_append]
  refine AWp_seqK fun Y0 y0 => ?_
  refine AWp_region ?_
  simp only [↓bO, go_sem, seval]
  refine y0 _ ?_
  try clear y0 Y0
  refine AWp_seqK fun Y0 y0 => ?_
  refine AWp_region ?_
  refine aops_chunk 1 fun Q0 q0 => ?_
  simp only [↓bO, go_sem, seval]
  refine q0 _ ?_
  clear q0 Q0
  simp only [go_sem]
  refine aops_chunk 1 fun Q0 q0 => ?_
  simp only [↓bO, go_sem, seval]
  refine APure.call (small_pure c) ?_
  try simp only [bS, bA, thenQ, blockQ, noGotoQ]
  refine q0 _ ?_
  clear q0 Q0
  simp only [go_sem]
  refine aops_chunk 1 fun Q0 q0 => ?_
  simp only [↓bO, go_sem, seval]
  refine q0 _ ?_
  clear q0 Q0
  simp only [go_sem]
  refine aops_case 5 rfl (fun hc5 => ?_) (fun hc5 => ?_)
  ·
   simp only [List.set_cons_zero, List.set_cons_succ]
   iterate 7 (refine aops_chunk 1 fun Q0 q0 => ?_; simp only [↓bO, go_sem, seval]; refine q0 _ ?_; clear q0 Q0; simp only [go_sem])
   simp only [↓bO, go_sem, seval]
   refine y0 _ ?_
   try clear y0 Y0
   refine AWp_ret ?_
   try simp only [thenQ, blockQ, noGotoQ, retQ, aRes, tupOf, bS, bA]
   refine Le.of_eq (congrArg (fun b => AV.v (.bool b)) ?_)
   simp_all [inI]
  ·
   simp only [List.set_cons_zero, List.set_cons_succ]
   refine aops_chunk 1 fun Q0 q0 => ?_
   simp only [↓bO, go_sem, seval]
   refine q0 _ ?_
   clear q0 Q0
   simp only [go_sem]
   refine aops_chunk 1 fun Q0 q0 => ?_
   simp only [↓bO, go_sem, seval]
   refine APure.call (digit_pure c) ?_
   try simp only [bS, bA, thenQ, blockQ, noGotoQ]
   iterate 2 (refine q0 _ ?_; clear q0 Q0; simp only [go_sem]; refine aops_chunk 1 fun Q0 q0 => ?_; simp only [↓bO, go_sem, seval])
   refine q0 _ ?_
   clear q0 Q0
   simp only [go_sem]
   refine aops_case 9 rfl (fun hc9 => ?_) (fun hc9 => ?_)
   ·
    simp only [List.set_cons_zero, List.set_cons_succ]
    iterate 3 (refine aops_chunk 1 fun Q0 q0 => ?_; simp only [↓bO, go_sem, seval]; refine q0 _ ?_; clear q0 Q0; simp only [go_sem])
    simp only [↓bO, go_sem, seval]
    refine y0 _ ?_
    try clear y0 Y0
    refine AWp_ret ?_
    try simp only [thenQ, blockQ, noGotoQ, retQ, aRes, tupOf, bS, bA]
    refine Le.of_eq (congrArg (fun b => AV.v (.bool b)) ?_)
    simp_all [inI]
   ·
    simp only [List.set_cons_zero, List.set_cons_succ]
    iterate 3 (refine aops_chunk 1 fun Q0 q0 => ?_; simp only [↓bO, go_sem, seval]; refine q0 _ ?_; clear q0 Q0; simp only [go_sem])
    simp only [↓bO, go_sem, seval]
    refine y0 _ ?_
    try clear y0 Y0
    refine AWp_ret ?_
    try simp only [thenQ, blockQ, noGotoQ, retQ, aRes, tupOf, bS, bA]
    refine Le.of_eq (congrArg (fun b => AV.v (.bool b)) ?_)
    simp_all [inI]
theorem run_pure (s : ByteArray) (a g : Nat) (p : Int → Bool) (hg : ∀ c : Int, APure Tryd.prog g [.v (.int .u8 c)] (.v (.bool (p c)))) (ha : a ≤ s.size) (hs : s.size ≤ 9223372036854775807) : APure Tryd.prog 45 [.v (.string s), .v (.int .i64 a), .clo g []] (.v (.int .i64 (runN s a p))) := by
  refine APure.mkL (.cons (.v _) (.cons (.v _) (.cons .clo0 .nil))) (.v _) ?_
  refine ACalls_intro Tryd.func45 (by kernel_rfl) rfl (by rw [Tryd.ntmps45]; simp) (fun hm => ?_)
  simp only [Tryd.ntmps45, Tryd.results45, List.length_cons, List.length_nil, Nat.reduceAdd, Nat.reduceSub, List.replicate_succ, List.replicate_zero, List.cons_append, List.nil_append]
  iterate 2 (refine AWp_seqK fun Y0 y0 => ?_; refine AWp_region ?_; simp only [↓bO, go_sem, seval]; refine y0 _ ?_; (try clear y0 Y0))
  refine AWp_seqK fun Y0 y0 => ?_
  refine AWp_block ?_
  refine AWp_loopM (σ := Nat) (mB 26 135) (fun n => a + n ≤ s.size ∧ ∀ i, i < n → p ((s[a + i]?).getD 0).toNat = true) (fun n => [(7, .v (.int .i64 (n : Int)))]) (fun n => []) (fun n => s.size - (a + n)) 0 (⟨by omega, fun i hi => by omega⟩) ?_ (fun n hn => ?_)
  ·
   try simp only [maskL, setsL, putsO, putO, mB, List.set_cons_zero, List.set_cons_succ, seval]
   exact Weak.mk (by simp only [go_sem, Le.refl, Le.any, Le.slNil, Int.natCast_add, Int.cast_ofNat_Int, Int.natCast_one]) (fun _ _ h => h) rfl rfl
  simp only [maskL, setsL, putsO, putO, mB, List.set_cons_zero, List.set_cons_succ, seval]
  have hw1 : IntKind.i64.wrap ((a : Int) + (n : Int)) = ((a + n : Nat) : Int) := by rw [wrap_in (by omega) (by omega)]; omega
  refine AWp_seqK fun Y1 y1 => ?_
  refine AWp_seqK fun Y2 y2 => ?_
  refine AWp_region ?_
  iterate 7 (refine aops_chunk 1 fun Q0 q0 => ?_; simp only [↓bO, go_sem, seval, hw1]; refine q0 _ ?_; clear q0 Q0; simp only [go_sem])
  refine aops_case 14 rfl (fun hc14 => ?_) (fun hc14 => ?_)
  ·
   simp only [List.set_cons_zero, List.set_cons_succ]
   have hlt : a + n < s.size := by simpa using hc14
   have hw2 : IntKind.i64.wrap ((n : Int) + 1) = ((n + 1 : Nat) : Int) := by rw [wrap_in (by omega) (by omega)]; omega
   iterate 6 (refine aops_chunk 1 fun Q0 q0 => ?_; simp only [↓bO, go_sem, seval, hw1, hlt, hw2]; refine q0 _ ?_; clear q0 Q0; simp only [go_sem])
   refine aops_chunk 1 fun Q0 q0 => ?_
   simp only [↓bO, go_sem, seval, hw1, hlt, hw2]
   refine APure.call (hg _) ?_
   try simp only [bS, bA, thenQ, blockQ, noGotoQ]
   refine q0 _ ?_
   clear q0 Q0
   simp only [go_sem]
   simp only [↓bO, go_sem, seval, hw1, hlt, hw2]
   refine y2 _ ?_
   try clear y2 Y2
   refine AWp_cond rfl (fun hb22 => ?_) (fun hb22 => ?_)
   ·
    refine AWp_skip ?_
    try simp only [thenQ, blockQ, noGotoQ]
    refine y1 _ ?_
    try clear y1 Y1
    refine AWp_block ?_
    refine AWp_region ?_
    iterate 2 (refine aops_chunk 1 fun Q0 q0 => ?_; simp only [↓bO, go_sem, seval, hw1, hlt, hw2]; refine q0 _ ?_; clear q0 Q0; simp only [go_sem])
    simp only [↓bO, go_sem, seval, hw1, hlt, hw2]
    refine ⟨(n + 1), ⟨by omega, fun i hi => (by rcases Nat.lt_or_ge i n with h3 | h3 <;> first | exact hn.2 i h3 | (obtain rfl : i = n := (by omega); exact hb22))⟩, by omega, ?_⟩
    try simp only [maskL, setsL, putsO, putO, mB, List.set_cons_zero, List.set_cons_succ, seval, hw1, hlt, hw2]
    exact Weak.mk (by simp only [go_sem, Le.refl, Le.any, Le.slNil, Int.natCast_add, Int.cast_ofNat_Int, Int.natCast_one]) (fun _ _ h => h) rfl rfl
   ·
    refine AWp_exit ?_
    simp only [thenQ, blockQ, noGotoQ, bA, Nat.reduceEqDiff, ↓reduceIte]
    refine y0 _ ?_
    try clear y0 Y0
    refine AWp_seqK fun Y0 y0 => ?_
    refine AWp_region ?_
    refine aops_chunk 1 fun Q0 q0 => ?_
    simp only [↓bO, go_sem, seval, hlt, hw2]
    refine q0 _ ?_
    clear q0 Q0
    simp only [go_sem]
    simp only [↓bO, go_sem, seval, hlt, hw2]
    refine y0 _ ?_
    try clear y0 Y0
    refine AWp_ret ?_
    try simp only [thenQ, blockQ, noGotoQ, retQ, aRes, tupOf, bS, bA]
    refine Le.of_eq (congrArg (fun n : Nat => AV.v (.int .i64 n)) ?_)
    exact (runN_eq hn.1 hn.2 fun _ => hb22).symm
  ·
   simp only [List.set_cons_zero, List.set_cons_succ]
   have hge : ¬ a + n < s.size := by simpa using hc14
   iterate 7 (refine aops_chunk 1 fun Q0 q0 => ?_; simp only [↓bO, go_sem, seval]; refine q0 _ ?_; clear q0 Q0; simp only [go_sem])
   simp only [↓bO, go_sem, seval]
   refine y2 _ ?_
   try clear y2 Y2
   refine AWp_cond (b := false) (by first | exact rfl | exact congrArg (fun b => AV.v (.bool b)) hb22) (fun h => (by cases h)) (fun _ => ?_)
   refine AWp_exit ?_
   simp only [thenQ, blockQ, noGotoQ, bA, Nat.reduceEqDiff, ↓reduceIte]
   refine y0 _ ?_
   try clear y0 Y0
   refine AWp_seqK fun Y0 y0 => ?_
   refine AWp_region ?_
   refine aops_chunk 1 fun Q0 q0 => ?_
   simp only [↓bO, go_sem, seval]
   refine q0 _ ?_
   clear q0 Q0
   simp only [go_sem]
   simp only [↓bO, go_sem, seval]
   refine y0 _ ?_
   try clear y0 Y0
   refine AWp_ret ?_
   try simp only [thenQ, blockQ, noGotoQ, retQ, aRes, tupOf, bS, bA]
   refine Le.of_eq (congrArg (fun n : Nat => AV.v (.int .i64 n)) ?_)
   exact (runN_eq hn.1 hn.2 fun h => absurd h hge).symm
theorem IdxS_pure (l : List ByteArray) (v : ByteArray) (hl : l.length ≤ 1099511627776) : APure Tryd.prog 69 [.sl 1 (l.map strC), .v (.string v)] (.v (.int .i64 (idxI (fun x => eqS v x) l))) := by
  refine APure.mkL (.cons (dataStrs _) (.cons (.v _) .nil)) (.v _) ?_
  refine ACalls_intro Tryd.func69 (by kernel_rfl) rfl (by rw [Tryd.ntmps69]; simp) (fun hm => ?_)
  simp only [Tryd.ntmps69, Tryd.results69, List.length_cons, List.length_nil, Nat.reduceAdd, Nat.reduceSub, List.replicate_succ, List.replicate_zero, List.cons_append, List.nil_append]
  refine AWp_seqK fun Y0 y0 => ?_
  refine AWp_region ?_
  simp only [↓bO, go_sem, seval]
  refine y0 _ ?_
  try clear y0 Y0
  refine AWp_seqK fun Y0 y0 => ?_
  refine AWp_seqK fun Y1 y1 => ?_
  refine AWp_region ?_
  iterate 2 (refine aops_chunk 1 fun Q0 q0 => ?_; simp only [↓bO, go_sem, seval]; refine q0 _ ?_; clear q0 Q0; simp only [go_sem])
  simp only [↓bO, go_sem, seval]
  refine y1 _ ?_
  try clear y1 Y1
  refine AWp_block ?_
  refine AWp_loopM (σ := Nat) (mB 19 387) (fun s => s ≤ l.length ∧ ∀ (i : Nat) (p : ByteArray), i < s → l[i]? = some p → eqS v p = false) (fun s => [(8, .v (.int .i64 (s : Int)))]) (fun s => []) (fun s => l.length - s) 0 (⟨by omega, fun i p hi => by omega⟩) ?_ (fun s hs => ?_)
  ·
   simp only [maskL, setsL, putsO, putO, mB, List.set_cons_zero, List.set_cons_succ, seval]
   exact Weak.mk (by simp only [go_sem, Le.refl, Le.any, Le.slNil, Int.natCast_add, Int.cast_ofNat_Int, Int.natCast_one]) (fun _ _ h => h) rfl rfl
  simp only [maskL, setsL, putsO, putO, mB, List.set_cons_zero, List.set_cons_succ, seval]
  refine AWp_seqK fun Y1 y1 => ?_
  refine AWp_region ?_
  simp only [↓bO, go_sem, seval]
  refine y1 _ ?_
  try clear y1 Y1
  refine AWp_seqK fun Y1 y1 => ?_
  refine AWp_cond rfl (fun hb9 => ?_) (fun hb9 => ?_)
  ·
   have hk : s < l.length := by simpa using hb9
   obtain ⟨p, hp⟩ : ∃ p, l[s]? = some p := ⟨_, List.getElem?_eq_getElem hk⟩
   have hw : IntKind.i64.wrap ((s : Int) + 1) = (s : Int) + 1 := wrap_in (by omega) (by omega)
   refine AWp_skip ?_
   try simp only [thenQ, blockQ, noGotoQ]
   refine y1 _ ?_
   try clear y1 Y1
   refine AWp_seqK fun Y1 y1 => ?_
   refine AWp_block ?_
   refine AWp_seqK fun Y2 y2 => ?_
   refine AWp_region ?_
   refine aops_chunk 1 fun Q0 q0 => ?_
   simp only [↓bO, go_sem, seval, hk, gM hp, Int.natCast_add, hw, strC]
   refine q0 _ ?_
   clear q0 Q0
   simp only [go_sem]
   simp only [↓bO, go_sem, seval, hk, gM hp, Int.natCast_add, hw, strC]
   refine y2 _ ?_
   try clear y2 Y2
   refine AWp_seqK fun Y2 y2 => ?_
   refine AWp_region ?_
   iterate 5 (refine aops_chunk 1 fun Q0 q0 => ?_; simp only [↓bO, go_sem, seval, hk, gM hp, Int.natCast_add, hw, strC]; refine q0 _ ?_; clear q0 Q0; simp only [go_sem])
   simp only [↓bO, go_sem, seval, hk, gM hp, Int.natCast_add, hw, strC]
   refine y2 _ ?_
   try clear y2 Y2
   refine AWp_cond rfl (fun hb16 => ?_) (fun hb16 => ?_)
   ·
    refine AWp_seqK fun Y2 y2 => ?_
    refine AWp_region ?_
    refine aops_chunk 1 fun Q0 q0 => ?_
    simp only [↓bO, go_sem, seval, hk, gM hp, Int.natCast_add, hw, strC]
    refine q0 _ ?_
    clear q0 Q0
    simp only [go_sem]
    simp only [↓bO, go_sem, seval, hk, gM hp, Int.natCast_add, hw, strC]
    refine y2 _ ?_
    try clear y2 Y2
    refine AWp_ret ?_
    try simp only [thenQ, blockQ, noGotoQ, retQ, aRes, tupOf, bS, bA]
    refine Le.of_eq (congrArg (fun n => AV.v (.int .i64 n)) ?_)
    first | (rw [idxI_some hp (by exact hb16) hs.2]; done) | (rw [idxI_none (fun i p hi h1 => hs.2 i p (by omega) h1)]; done)
   ·
    refine AWp_skip ?_
    try simp only [thenQ, blockQ, noGotoQ]
    refine y1 _ ?_
    try clear y1 Y1
    refine AWp_region ?_
    refine aops_chunk 1 fun Q0 q0 => ?_
    simp only [↓bO, go_sem, seval, hk, gM hp, Int.natCast_add, hw, strC]
    refine q0 _ ?_
    clear q0 Q0
    simp only [go_sem]
    simp only [↓bO, go_sem, seval, hk, gM hp, Int.natCast_add, hw, strC]
    refine ⟨(s + 1), ⟨by omega, fun i p' hi h1 => (by rcases Nat.lt_or_ge i s with h3 | h3 <;> first | exact hs.2 i p' h3 h1 | (obtain rfl : i = s := (by omega); rw [hp] at h1; cases h1; exact hb16))⟩, by omega, ?_⟩
    simp only [maskL, setsL, putsO, putO, mB, List.set_cons_zero, List.set_cons_succ, seval, hk, gM hp, Int.natCast_add, Int.natCast_one, hw, strC]
    exact Weak.mk (by simp only [go_sem, Le.refl, Le.any, Le.slNil, Int.natCast_add, Int.cast_ofNat_Int, Int.natCast_one]) (fun _ _ h => h) rfl rfl
  ·
   have hk : s = l.length := by have := hs.1; simp at hb9; omega
   refine AWp_exit ?_
   simp only [thenQ, blockQ, noGotoQ, bA, Nat.reduceEqDiff, ↓reduceIte]
   refine y0 _ ?_
   try clear y0 Y0
   refine AWp_seqK fun Y0 y0 => ?_
   refine AWp_region ?_
   simp only [↓bO, go_sem, seval]
   refine y0 _ ?_
   try clear y0 Y0
   refine AWp_ret ?_
   try simp only [thenQ, blockQ, noGotoQ, retQ, aRes, tupOf, bS, bA]
   refine Le.of_eq (congrArg (fun n => AV.v (.int .i64 n)) ?_)
   first | (rw [idxI_some hp (by exact hb16) hs.2]; done) | (rw [idxI_none (fun i p hi h1 => hs.2 i p (by omega) h1)]; done)
theorem ContS_pure (l : List ByteArray) (v : ByteArray) (hl : l.length ≤ 1099511627776) : APure Tryd.prog 59 [.sl 1 (l.map strC), .v (.string v)] (.v (.bool (l.any fun x => eqS v x))) := by
  refine APure.mkL (.cons (dataStrs _) (.cons (.v _) .nil)) (.v _) ?_
  refine ACalls_intro Tryd.func59 (by kernel_rfl) rfl (by rw [Tryd.ntmps59]; simp) (fun hm => ?_)
  simp only [Tryd.ntmps59, Tryd.results59, List.length_cons, List.length_nil, Nat.reduceAdd, Nat.reduceSub, List.replicate_succ, List.replicate_zero, List.cons_append, List.nil_append]
  refine AWp_seqK fun Y0 y0 => ?_
  refine AWp_region ?_
  simp only [↓bO, go_sem, seval, idxI_ge]
  refine y0 _ ?_
  try clear y0 Y0
  refine AWp_seqK fun Y0 y0 => ?_
  refine AWp_region ?_
  iterate 2 (refine aops_chunk 1 fun Q0 q0 => ?_; simp only [↓bO, go_sem, seval, idxI_ge]; refine q0 _ ?_; clear q0 Q0; simp only [go_sem])
  refine aops_chunk 1 fun Q0 q0 => ?_
  simp only [↓bO, go_sem, seval, idxI_ge]
  refine APure.call (IdxS_pure l v hl) ?_
  try simp only [bS, bA, thenQ, blockQ, noGotoQ]
  refine q0 _ ?_
  clear q0 Q0
  simp only [go_sem]
  refine aops_chunk 1 fun Q0 q0 => ?_
  simp only [↓bO, go_sem, seval, idxI_ge]
  refine q0 _ ?_
  clear q0 Q0
  simp only [go_sem]
  simp only [↓bO, go_sem, seval, idxI_ge]
  refine y0 _ ?_
  try clear y0 Y0
  refine AWp_ret ?_
  try simp only [thenQ, blockQ, noGotoQ, retQ, aRes, tupOf, bS, bA]
  exact Le.refl _
theorem Keyword_pure (s : ByteArray) : APure Tryd.prog 47 [.v (.string s)] (.v (.bool (kwB s))) := by
  refine APure.mkL (.cons (.v _) .nil) (.v _) ?_
  refine ACalls_intro Tryd.func47 (by kernel_rfl) rfl (by rw [Tryd.ntmps47]; simp) (fun hm => ?_)
  simp only [Tryd.ntmps47, Tryd.results47, List.length_cons, List.length_nil, Nat.reduceAdd, Nat.reduceSub, List.replicate_succ, List.replicate_zero, List.cons_append, List.nil_append]
  refine AWp_seqK fun Y0 y0 => ?_
  refine AWp_region ?_
  simp only [↓bO, go_sem, seval]
  refine y0 _ ?_
  try clear y0 Y0
  refine AWp_seqK fun Y0 y0 => ?_
  refine AWp_region ?_
  refine aops_chunk 1 fun Q0 q0 => ?_
  simp only [↓bO, go_sem, seval]
  refine APure.call (Fields_pure) ?_
  try simp only [bS, bA, thenQ, blockQ, noGotoQ]
  iterate 2 (refine q0 _ ?_; clear q0 Q0; simp only [go_sem]; refine aops_chunk 1 fun Q0 q0 => ?_; simp only [↓bO, go_sem, seval])
  refine APure.call (ContS_pure kwL s (of_decide_eq_true (by kernel_rfl))) ?_
  try simp only [bS, bA, thenQ, blockQ, noGotoQ]
  refine q0 _ ?_
  clear q0 Q0
  simp only [go_sem]
  simp only [↓bO, go_sem, seval]
  refine y0 _ ?_
  try clear y0 Y0
  refine AWp_ret ?_
  try simp only [thenQ, blockQ, noGotoQ, retQ, aRes, tupOf, bS, bA]
  exact Le.refl _
end Go.Proofs.YtmepcmphcghbeaaDoor
namespace Go.Proofs.YtmepcmphcghbeaaDoor
open Go
set_option linter.unusedVariables false
def u8C (c : UInt8) : List AV := [.v (.int .u8 (c.toNat : Int))]
def ofL (l : List UInt8) : ByteArray := ⟨l.toArray⟩
theorem ofL_data (l : List UInt8) : (ofL l).data.toList = l := rfl
theorem ofL_size (l : List UInt8) : (ofL l).size = l.length := by simp [ofL, ByteArray.size]
theorem ofL_back (s : ByteArray) : ofL s.data.toList = s := by cases s; rfl
theorem ofL_app (a b : List UInt8) : ofL a ++ ofL b = ofL (a ++ b) := ByteArray.ext (Array.ext' (by simp [ofL, ByteArray.data_append]))
theorem bytesOf_u8 : ∀ l : List UInt8, bytesOf (l.map u8C) = some (l.map fun c => (c.toNat : Int))
  | [] => rfl
  | c :: l => by
    show (bytesOf (l.map u8C)).map ((c.toNat : Int) :: ·) = _
    rw [bytesOf_u8 l]; rfl
theorem strOfNums_u8 (l : List UInt8) : strOfNums (l.map fun c => (c.toNat : Int)) = ofL l := by
  unfold strOfNums ofL
  congr 2
  rw [List.map_map]
  have : ((fun n : Int => UInt8.ofNat n.toNat) ∘ fun c : UInt8 => (c.toNat : Int)) = id := by
    funext c; simp
  rw [this, List.map_id]
theorem u8_nat {p : UInt8 → Prop} (h : ∀ n, n < 256 → p (UInt8.ofNat n)) (c : UInt8) : p c := by
  have := h c.toNat c.toNat_lt
  rwa [UInt8.ofNat_toNat] at this
def hx (n : Nat) : UInt8 := if n < 10 then UInt8.ofNat (48 + n) else UInt8.ofNat (87 + n)
def plainB (c : UInt8) : Bool := decide (32 ≤ c.toNat) && decide (c.toNat ≤ 126) && decide (c.toNat ≠ 34) && decide (c.toNat ≠ 92)
def qb (c : UInt8) : List UInt8 := if plainB c then [c] else [92, hx (c.toNat / 16), hx (c.toNat % 16)]
def quL (l : List UInt8) : List UInt8 := 34 :: (l.flatMap qb ++ [34])
def dg (c : UInt8) : Int := if 48 ≤ c.toNat ∧ c.toNat ≤ 57 then (c.toNat : Int) - 48 else if 97 ≤ c.toNat ∧ c.toNat ≤ 102 then (c.toNat : Int) - 87 else -1
def two (a b : Int) : UInt8 := UInt8.ofNat (16 * a.toNat + b.toNat)
theorem hx_dg : ∀ n, n < 16 → dg (hx n) = n := by decide
theorem dg_hx (a : UInt8) : 0 ≤ dg a → dg a < 16 ∧ hx (dg a).toNat = a := by
  refine u8_nat (p := fun a => 0 ≤ dg a → dg a < 16 ∧ hx (dg a).toNat = a) ?_ a
  set_option maxRecDepth 20000 in decide +kernel
theorem two_hx (c : UInt8) : two (dg (hx (c.toNat / 16))) (dg (hx (c.toNat % 16))) = c := by
  have := c.toNat_lt
  rw [hx_dg _ (by omega), hx_dg _ (Nat.mod_lt _ (by decide))]
  unfold two
  rw [Int.toNat_natCast, Int.toNat_natCast, Nat.div_add_mod, UInt8.ofNat_toNat]
theorem two_nat {a b : UInt8} (ha : 0 ≤ dg a) (hb : 0 ≤ dg b) : (two (dg a) (dg b)).toNat = 16 * (dg a).toNat + (dg b).toNat := by
  have h1 := (dg_hx a ha).1; have h2 := (dg_hx b hb).1
  unfold two
  rw [UInt8.toNat_ofNat']
  apply Nat.mod_eq_of_lt
  omega
def docD : List UInt8 → Option (List UInt8)
  | [] => some []
  | c :: r =>
    if c.toNat = 92 then
      match r with
      | a :: b :: r' => if dg a < 0 ∨ dg b < 0 then none else if plainB (two (dg a) (dg b)) then none else (docD r').map (two (dg a) (dg b) :: ·)
      | _ => none
    else if plainB c then (docD r).map (c :: ·) else none
def prgD : List UInt8 → Option (List UInt8)
  | [] => some []
  | c :: r =>
    if c.toNat = 92 then
      match r with
      | a :: b :: r' => (prgD r').map (two (max 0 (dg a)) (max 0 (dg b)) :: ·)
      | _ => none
    else (prgD r).map (c :: ·)
theorem plain_ne {c : UInt8} (h : plainB c = true) : c.toNat ≠ 92 := by
  unfold plainB at h
  simp only [Bool.and_eq_true, decide_eq_true_eq] at h
  exact h.2
theorem docD_sound : ∀ (n : Nat) (l t : List UInt8), l.length ≤ n → docD l = some t → t.flatMap qb = l
  | _, [], t, _, h => by cases h; rfl
  | n + 1, c :: r, t, hl, h => by
    have hl : r.length ≤ n := by simpa using hl
    unfold docD at h
    split at h
    · rename_i hc
      match r, hl, h with
      | [], _, h => cases h
      | [_], _, h => cases h
      | a :: b :: r', hl, h =>
        simp only at h
        split at h
        · cases h
        · rename_i hd
          split at h
          · cases h
          · rename_i hp
            obtain ⟨t', h1, rfl⟩ := Option.map_eq_some_iff.1 h
            have h2 := docD_sound n r' t' (by simp at hl; omega) h1
            have ha : 0 ≤ dg a := by omega
            have hb : 0 ≤ dg b := by omega
            have h3 := two_nat ha hb
            have h4 := dg_hx a ha
            have h5 := dg_hx b hb
            rw [List.flatMap_cons, h2]
            unfold qb
            rw [if_neg hp, h3]
            have e1 : (16 * (dg a).toNat + (dg b).toNat) / 16 = (dg a).toNat := by omega
            have e2 : (16 * (dg a).toNat + (dg b).toNat) % 16 = (dg b).toNat := by omega
            rw [e1, e2, h4.2, h5.2]
            have : c = 92 := UInt8.toNat_inj.1 hc
            rw [this]; rfl
    · split at h
      · rename_i hp
        obtain ⟨t', h1, rfl⟩ := Option.map_eq_some_iff.1 h
        rw [List.flatMap_cons, docD_sound n r t' hl h1]
        unfold qb
        rw [if_pos hp]; rfl
      · cases h
theorem docD_full : ∀ t : List UInt8, docD (t.flatMap qb) = some t
  | [] => rfl
  | c :: t => by
    rw [List.flatMap_cons]
    unfold qb
    split
    · rename_i hp
      show docD (c :: t.flatMap qb) = _
      unfold docD
      rw [if_neg (plain_ne hp), if_pos hp, docD_full t]; rfl
    · rename_i hp
      show docD (92 :: hx (c.toNat / 16) :: hx (c.toNat % 16) :: t.flatMap qb) = _
      have := c.toNat_lt
      unfold docD
      rw [if_pos (by decide)]
      simp only
      rw [if_neg (by rw [hx_dg _ (by omega), hx_dg _ (Nat.mod_lt _ (by decide))]; omega), two_hx, if_neg hp, docD_full t]; rfl
theorem prgD_full : ∀ t : List UInt8, prgD (t.flatMap qb) = some t
  | [] => rfl
  | c :: t => by
    rw [List.flatMap_cons]
    unfold qb
    split
    · rename_i hp
      show prgD (c :: t.flatMap qb) = _
      unfold prgD
      rw [if_neg (plain_ne hp), prgD_full t]; rfl
    · rename_i hp
      show prgD (92 :: hx (c.toNat / 16) :: hx (c.toNat % 16) :: t.flatMap qb) = _
      have := c.toNat_lt
      unfold prgD
      rw [if_pos (by decide)]
      simp only
      have e1 : max 0 (dg (hx (c.toNat / 16))) = dg (hx (c.toNat / 16)) := by rw [hx_dg _ (by omega)]; omega
      have e2 : max 0 (dg (hx (c.toNat % 16))) = dg (hx (c.toNat % 16)) := by rw [hx_dg _ (Nat.mod_lt _ (by decide))]; omega
      rw [e1, e2, two_hx, prgD_full t]; rfl
theorem docD_iff (l t : List UInt8) : docD l = some t ↔ t.flatMap qb = l := ⟨docD_sound _ l t (Nat.le_refl _), fun h => h ▸ docD_full t⟩
def innL (l : List UInt8) : List UInt8 := (l.drop 1).take (l.length - 2)
def unqL (l : List UInt8) : Option (List UInt8) :=
  if 2 ≤ l.length ∧ l.getD 0 0 = 34 ∧ l.getD (l.length - 1) 0 = 34 then docD (innL l) else none
theorem innL_of {l m : List UInt8} (h : l = 34 :: (m ++ [34])) : 2 ≤ l.length ∧ l.getD 0 0 = 34 ∧ l.getD (l.length - 1) 0 = 34 ∧ innL l = m := by
  subst h
  refine ⟨by simp, rfl, ?_, ?_⟩
  · simp [List.getD]
  · simp [innL]
theorem of_innL {l : List UInt8} (h1 : 2 ≤ l.length) (h2 : l.getD 0 0 = 34) (h3 : l.getD (l.length - 1) 0 = 34) : l = 34 :: (innL l ++ [34]) := by
  match l, h1, h2 with
  | c :: r, h1, h2 =>
    have hc : c = 34 := h2
    subst hc
    congr 1
    simp only [List.length_cons, Nat.add_sub_cancel] at h3
    have hr : r ≠ [] := by rintro rfl; simp at h1
    have hlast : r.getLast hr = 34 := by
      rw [List.getLast_eq_getElem]
      have h4 : 0 < r.length := List.length_pos_iff.2 hr
      have h5 : ∀ n, r.length = n + 1 → (34 :: r).getD r.length 0 = r[r.length - 1] := fun n hn => by
        have h6 : (34 :: r)[r.length]? = some r[r.length - 1] := by
          have h7 : (34 :: r)[r.length - 1 + 1]? = some r[r.length - 1] := by
            rw [List.getElem?_cons_succ, List.getElem?_eq_getElem (by omega)]
          rwa [Nat.sub_add_cancel h4] at h7
        rw [List.getD_eq_getElem?_getD, h6]; rfl
      rw [← h5 (r.length - 1) (by omega)]; exact h3
    have h6 : r.dropLast ++ [r.getLast hr] = r := List.dropLast_concat_getLast hr
    rw [hlast] at h6
    rw [← h6]
    simp [innL]
theorem unqL_iff (l t : List UInt8) : unqL l = some t ↔ quL t = l := by
  unfold unqL
  constructor
  · intro h
    split at h
    · rename_i hc
      have h1 := of_innL hc.1 hc.2.1 hc.2.2
      rw [docD_iff] at h
      unfold quL
      rw [h]; exact h1.symm
    · cases h
  · intro h
    obtain ⟨h1, h2, h3, h4⟩ := innL_of (l := l) (m := t.flatMap qb) h.symm
    rw [if_pos ⟨h1, h2, h3⟩, h4, docD_full]
theorem unqL_prg {l t : List UInt8} (h : unqL l = some t) : prgD (innL l) = some t := by
  have h1 := (unqL_iff l t).1 h
  rw [(innL_of (l := l) (m := t.flatMap qb) h1.symm).2.2.2, prgD_full]
theorem unqL_none {l t : List UInt8} (h : prgD (innL l) = some t) (hq : quL t ≠ l) : unqL l = none := by
  cases hu : unqL l with
  | none => rfl
  | some t' =>
    have h1 := unqL_prg hu
    rw [h] at h1
    cases h1
    exact absurd ((unqL_iff l t).1 hu) hq
theorem unqL_none' {l : List UInt8} (h : prgD (innL l) = none) : unqL l = none := by
  cases hu : unqL l with
  | none => rfl
  | some t' => rw [unqL_prg hu] at h; cases h
theorem unqL_quL (t : List UInt8) : unqL (quL t) = some t := (unqL_iff _ t).2 rfl
theorem quL_unqL {l t : List UInt8} (h : unqL l = some t) : quL t = l := (unqL_iff l t).1 h
theorem qb_len (c : UInt8) : (qb c).length ≤ 3 := by unfold qb; split <;> simp
theorem quL_len (l : List UInt8) : (quL l).length ≤ 3 * l.length + 2 := by
  have : ∀ l : List UInt8, (l.flatMap qb).length ≤ 3 * l.length := fun l => by
    induction l with
    | nil => simp
    | cons c l ih => rw [List.flatMap_cons, List.length_append, List.length_cons]; have := qb_len c; omega
  have := this l
  unfold quL
  rw [List.length_cons, List.length_append, List.length_singleton]; omega
end Go.Proofs.YtmepcmphcghbeaaDoor
