/- Texts of the abstract walk, of the contracts and of the plain laws, packed (part 26 of 41): Un5. Conditions: none. -/
import Derived.Test.YtjjjckjebkmnjaaPk25
namespace Go.Proofs.Ytjjjckjebkmnjaa
open Go Go.RowKit
set_option maxRecDepth 100000
set_option maxHeartbeats 1000000
set_option linter.unusedSimpArgs false
set_option linter.unusedVariables false
attribute [local irreducible] aops dRun
def pC (p : Int × Int) : List AV := [.v (.int .i64 p.1), .v (.int .i64 p.2)]
theorem pC_data (l : List (Int × Int)) : Data (.sl 2 (l.map pC)) := .sl fun x hx => by
  obtain ⟨p, _, rfl⟩ := List.mem_map.1 hx
  exact .cons (.v _) (.cons (.v _) .nil)
structure CInv (S : CS) : Prop where
  g : GInv S.G
  f : FInv S.F
  fl : S.F.up.length = S.W.length
  wl : S.W.length = S.G.N.length
  wr : ∀ w ∈ S.W, w = -1 ∨ (0 ≤ w ∧ w < (S.G.N.length : Int))
  pl : ∀ x ∈ S.G.N, x.parts.length ≤ 8
  pr : ∀ x ∈ S.G.N, ∀ p ∈ x.parts, 0 ≤ p ∧ p < (S.G.N.length : Int)
def clash (x y : GNode) : Bool := x.k != y.k || x.parts.length != y.parts.length
structure CJoin (S : CS) (a b : Nat) (s : CS × (List (Int × Int) × Bool)) : Prop where
  g : s.1.G = S.G
  c : s.1.clash = S.clash
  ex : ∃ (r : Nat) (two : Bool), FJoin S.F a b (s.1.F, (r, two)) ∧ ((two = false ∧ s.1.W = S.W ∧ s.2 = ([], true)) ∨
    (two = true ∧ ∃ (ra rb : Nat) (x y : Int), Rt S.F.up a ra ∧ Rt S.F.up b rb ∧ S.W[ra]? = some x ∧ S.W[rb]? = some y ∧
      (((x < 0 ∨ y < 0) ∧ s.1.W = S.W.set r (max x y) ∧ s.2 = ([], true)) ∨
       (0 ≤ x ∧ 0 ≤ y ∧ s.1.W = S.W.set r x ∧ ∃ gx gy : GNode, S.G.N[x.toNat]? = some gx ∧ S.G.N[y.toNat]? = some gy ∧
          ((clash gx gy = true ∧ s.2 = ([], false)) ∨ (clash gx gy = false ∧ s.2 = (gx.parts.zip gy.parts, true)))))))
theorem FJoin.of {F F2 : FS} {a b : Nat} {s : FS × (Nat × Bool)} (h : FSame F F2) (k : FJoin F2 a b s) : FJoin F a b s := by
  obtain ⟨ra, rb, h1, h2, h3⟩ := k.ex
  refine ⟨k.inv, k.len.trans h.len, ra, rb, (h.rt _ _).1 h1, (h.rt _ _).1 h2, ?_⟩
  rcases h3 with ⟨e, h4, h5⟩ | ⟨e, h4, h5, h6⟩
  · exact .inl ⟨e, h4, fun k q => (h5 k q).trans (h.rt k q)⟩
  · exact .inr ⟨e, h4, h5, fun k q => (h6 k q).trans (by simp only [h.rt])⟩
theorem FJoin.rlt {F : FS} {a b : Nat} {s : FS × (Nat × Bool)} (k : FJoin F a b s) : s.2.1 < F.up.length := by
  obtain ⟨ra, rb, h1, h2, h3⟩ := k.ex
  rcases h3 with ⟨e, h4, _⟩ | ⟨e, _, h4, _⟩
  · rw [h4]; exact h1.lt
  · rcases h4 with h4 | h4 <;> rw [h4]
    · exact h1.lt
    · exact h2.lt
theorem bne_cast (a b : Nat) : (((a : Nat) : Int) != ((b : Nat) : Int)) = (a != b) := by
  rw [Bool.eq_iff_iff]; simp; omega
theorem clash_eq (x y : GNode) : (x.k != y.k) = true → clash x y = true := fun h => by rw [clash, h]; rfl
theorem join_c (S : CS) (hS : CInv S) (a b : Nat) (ha : a < S.F.up.length) (hb : b < S.F.up.length) : CCalls (σ := List (Int × Int) × Bool) 54 [.ptr 0 0, .v (.int .i64 (a : Int)), .v (.int .i64 (b : Int))] (S) (fun s => CJoin S a b s ∧ s.1.steps = S.steps) (fun s => .tup [.sl 2 (s.1.map pC), .v (.bool s.2)]) := by
 refine ACalls.clean (C := fun r os => ∃ s : CS × List (Int × Int) × Bool, (CJoin S a b s ∧ s.1.steps = S.steps) ∧ r = (fun s : List (Int × Int) × Bool => .tup [.sl 2 (s.1.map pC), .v (.bool s.2)]) s.2 ∧ os = enumO 0 (cObs s.1)) ?_
 refine ACalls_intro Try.func54 (by kernel_rfl) rfl (by rw [Try.ntmps54]; simp) (fun hm => ?_)
 simp only [Try.ntmps54, Try.results54, List.length_cons, List.length_nil, Nat.reduceAdd, Nat.reduceSub, List.replicate_succ, List.replicate_zero, List.cons_append, List.nil_append]
 simp only [cObs, enumO, Nat.reduceAdd]
 have hpl : ∀ x ∈ S.G.N, x.parts.length ≤ 1099511627776 := fun x hx => by have := hS.pl x hx; omega
 refine AWp_seqK fun K1 hK1 => ?_
 refine AWp_region ?_
 simp only [↓bO, bS, bA, bF, ↓reduceIte, Nat.reduceEqDiff, reduceCtorEq, List.length_map, bL, Nat.reduceAdd, Nat.reduceLeDiff, Int.toNat_natCast, Int.natCast_nonneg]
 refine hK1 _ ?_; try clear hK1 K1
 refine AWp_joinE (σ := FS × Nat × Nat × Int × Int) [true, true, true, false, false, false, false, false, true, true, false, false, false, false, false, false, false, false, false, false, false, false, false, false, false, false, false, false, false, false, false, false, false, false, false, false, false, false, false, false, false, false, false, false, false, false, false, false, false, false, false, false, false, false, false, false, false, false, false, false, false, false, false, false, false, false, false, false, false, false, false, false, false, false, false, false, false, false, false, false, false, false, false, false, false, false, false, false, false, false, false, false, false, false, false, false, false, false, false, false, false, false, false, false, false, false, false, false, false, false, false, false, false, false, false, false, false, false, false] (fun j => [(8, .v (.int .i64 j.2.2.2.1)), (9, .v (.int .i64 j.2.2.2.2))]) (fun j => [(4, .cells 115 [.own 5 j.1.up.length, .own 6 j.1.rank.length, .v (.int .i64 j.1.sets), .v (.int .i64 j.1.steps)]), (5, .row 3 1 (j.1.up.map nC)), (6, .row 3 1 (j.1.rank.map intC))]) (fun j => FSame S.F j.1 ∧ Rt S.F.up a j.2.1 ∧ Rt S.F.up b j.2.2.1 ∧ S.W[j.2.1]? = some j.2.2.2.1 ∧ S.W[j.2.2.1]? = some j.2.2.2.2) ?_ (fun j hj => ?_)
 ·
  refine AAny_start [(0, 3, [.own 7 S.W.length])] 20 rfl mixed (⟨⟨_, _, rfl, by simp, rfl, by simp [CurL, CurOk, getO]⟩, trivial⟩) rfl ?_
  dsimp only
  refine AAny_takeK 0 rfl (by kernel_rfl) (by kernel_rfl) (by kernel_rfl) (fun _ _ h => h) fun K2 hK2 => ?_
  simp only [aQuiet, aHeldLoad, CurL, CurOk, ↓bO, bS, bA, bF, ↓reduceIte, Nat.reduceEqDiff, reduceCtorEq, List.length_map, bL, Nat.reduceAdd, Nat.reduceLeDiff, Int.toNat_natCast, Int.natCast_nonneg]
  refine hK2 _ ?_; try clear hK2 K2
  refine AAny_takeK 1 rfl (by kernel_rfl) (by kernel_rfl) (by kernel_rfl) (fun _ _ h => h) fun K3 hK3 => ?_
  simp only [aQuiet, aHeldLoad, CurL, CurOk, ↓bO, bS, bA, bF, ↓reduceIte, Nat.reduceEqDiff, reduceCtorEq, List.length_map, bL, Nat.reduceAdd, Nat.reduceLeDiff, Int.toNat_natCast, Int.natCast_nonneg]
  refine hK3 _ ?_; try clear hK3 K3
  refine AAny_takeK 2 rfl (by kernel_rfl) (by kernel_rfl) (by kernel_rfl) (fun _ _ h => h) fun K4 hK4 => ?_
  simp only [aQuiet, aHeldLoad, CurL, CurOk, ↓bO, bS, bA, bF, ↓reduceIte, Nat.reduceEqDiff, reduceCtorEq, aField, fo89_3, bL, Nat.reduceAdd, List.length_map, Nat.reduceLeDiff, Int.toNat_natCast, Int.natCast_nonneg]
  refine hK4 _ ?_; try clear hK4 K4
  refine AAny_loadK 3 0 rfl rfl (by kernel_rfl) (by kernel_rfl) (by kernel_rfl) (fun _ _ h => h) fun K5 hK5 => ?_
  simp only [aQuiet, aHeldLoad, CurL, CurOk, ↓bO, bS, bA, bF, ↓reduceIte, Nat.reduceEqDiff, reduceCtorEq, aLoad, ti41, getO, pack, bL, Nat.reduceAdd, Nat.reduceLeDiff, List.length_map, Int.toNat_natCast, Int.natCast_nonneg]
  refine hK5 _ ?_; try clear hK5 K5
  refine AAny_takeK 4 rfl (by kernel_rfl) (by kernel_rfl) (by kernel_rfl) (fun _ _ h => h) fun K6 hK6 => ?_
  simp only [aQuiet, aHeldLoad, CurL, CurOk, ↓bO, bS, bA, bF, ↓reduceIte, Nat.reduceEqDiff, reduceCtorEq, List.length_map, bL, Nat.reduceAdd, Nat.reduceLeDiff, Int.toNat_natCast, Int.natCast_nonneg]
  refine hK6 _ ?_; try clear hK6 K6
  refine AAny_takeK 5 rfl (by kernel_rfl) (by kernel_rfl) (by kernel_rfl) (fun _ _ h => h) fun K7 hK7 => ?_
  simp only [aQuiet, aHeldLoad, CurL, CurOk, ↓bO, bS, bA, bF, ↓reduceIte, Nat.reduceEqDiff, reduceCtorEq, List.length_map, bL, Nat.reduceAdd, Nat.reduceLeDiff, Int.toNat_natCast, Int.natCast_nonneg]
  refine hK7 _ ?_; try clear hK7 K7
  refine AAny_takeK 9 rfl (by kernel_rfl) (by kernel_rfl) (by kernel_rfl) (fun _ _ h => h) fun K8 hK8 => ?_
  simp only [aQuiet, aHeldLoad, CurL, CurOk, ↓bO, bS, bA, bF, ↓reduceIte, Nat.reduceEqDiff, reduceCtorEq, List.length_map, bL, Nat.reduceAdd, Nat.reduceLeDiff, Int.toNat_natCast, Int.natCast_nonneg]
  refine hK8 _ ?_; try clear hK8 K8
  refine AAny_takeK 10 rfl (by kernel_rfl) (by kernel_rfl) (by kernel_rfl) (fun _ _ h => h) fun K9 hK9 => ?_
  simp only [aQuiet, aHeldLoad, CurL, CurOk, ↓bO, bS, bA, bF, ↓reduceIte, Nat.reduceEqDiff, reduceCtorEq, List.length_map, bL, Nat.reduceAdd, Nat.reduceLeDiff, Int.toNat_natCast, Int.natCast_nonneg]
  refine hK9 _ ?_; try clear hK9 K9
  refine AAny_takeK 11 rfl (by kernel_rfl) (by kernel_rfl) (by kernel_rfl) (fun _ _ h => h) fun K10 hK10 => ?_
  simp only [aQuiet, aHeldLoad, CurL, CurOk, ↓bO, bS, bA, bF, ↓reduceIte, Nat.reduceEqDiff, reduceCtorEq, aField, fo89_3, bL, Nat.reduceAdd, List.length_map, Nat.reduceLeDiff, Int.toNat_natCast, Int.natCast_nonneg]
  refine hK10 _ ?_; try clear hK10 K10
  refine AAny_loadK 12 0 rfl rfl (by kernel_rfl) (by kernel_rfl) (by kernel_rfl) (fun _ _ h => h) fun K11 hK11 => ?_
  simp only [aQuiet, aHeldLoad, CurL, CurOk, ↓bO, bS, bA, bF, ↓reduceIte, Nat.reduceEqDiff, reduceCtorEq, aLoad, ti41, getO, pack, bL, Nat.reduceAdd, Nat.reduceLeDiff, List.length_map, Int.toNat_natCast, Int.natCast_nonneg]
  refine hK11 _ ?_; try clear hK11 K11
  refine AAny_takeK 13 rfl (by kernel_rfl) (by kernel_rfl) (by kernel_rfl) (fun _ _ h => h) fun K12 hK12 => ?_
  simp only [aQuiet, aHeldLoad, CurL, CurOk, ↓bO, bS, bA, bF, ↓reduceIte, Nat.reduceEqDiff, reduceCtorEq, List.length_map, bL, Nat.reduceAdd, Nat.reduceLeDiff, Int.toNat_natCast, Int.natCast_nonneg]
  refine hK12 _ ?_; try clear hK12 K12
  refine AAny_takeK 14 rfl (by kernel_rfl) (by kernel_rfl) (by kernel_rfl) (fun _ _ h => h) fun K13 hK13 => ?_
  simp only [aQuiet, aHeldLoad, CurL, CurOk, ↓bO, bS, bA, bF, ↓reduceIte, Nat.reduceEqDiff, reduceCtorEq, List.length_map, bL, Nat.reduceAdd, Nat.reduceLeDiff, Int.toNat_natCast, Int.natCast_nonneg]
  refine hK13 _ ?_; try clear hK13 K13
  refine AAny_all1 (i := 6) (by kernel_rfl) ?_
  ·
   refine aAt_op rfl rfl fun K14 hK14 => ?_
   simp only [↓bO, bS, bA, bF, ↓reduceIte, Nat.reduceEqDiff, reduceCtorEq, aCallV, bL, List.length_map, Nat.reduceAdd, Nat.reduceLeDiff, Int.toNat_natCast, Int.natCast_nonneg]
   refine CCalls.at (root_c S hS.f a ha) (.cons (.v _) .nil) (fun _ => .v _) (i0 := 0) (i1 := 1) (i2 := 2) (i3 := 3) (i4 := 4) (i5 := 5) (i6 := 6) (i7 := 7) (by decide) (by simp) ⟨rfl, rfl, rfl, rfl, rfl, rfl, rfl, rfl, trivial⟩ (fun S1 r1 hS1 => ?_)
   try dsimp only at hS1
   simp only [cObsAt, List.zip_cons_cons, List.zip_nil_left, List.zip_nil_right, putsO, putO, Nat.reduceEqDiff, ↓reduceIte]
   obtain ⟨F1, rfl⟩ : ∃ F1, S1 = { S with F := F1 } := ⟨S1.F, hS1.2.2⟩
   dsimp only at hS1
   obtain ⟨x, hx⟩ : ∃ x, S.W[r1]? = some x := ⟨_, List.getElem?_eq_getElem (by rw [← hS.fl]; exact hS1.2.1.lt)⟩
   have hi1 : r1 < S.W.length := (List.getElem?_eq_some_iff.1 hx).1
   have hi2 : (r1 : Int) < (S.W.length : Int) := by omega
   try simp only [bS, bA]
   refine hK14 _ ⟨⟨⟨_, _, rfl, by simp, rfl, by simp [CurL, CurOk, getO]⟩, trivial⟩, ?_⟩
   try clear hK14 K14
   refine AAny_all2 (i := 7) (j := 15) (by kernel_rfl) ?_ ?_
   ·
    refine aAt_op rfl rfl fun K15 hK15 => ?_
    simp only [↓bO, bS, bA, bF, ↓reduceIte, Nat.reduceEqDiff, reduceCtorEq, getO, aIndexA, es41, Int.natCast_nonneg, Int.ofNat_lt, Int.toNat_natCast, List.length_map, Int.le_refl, Int.toNat_zero, Int.toNat_one, Int.reduceLE, bL, Nat.reduceAdd, Nat.reduceLeDiff, gM hx, hi1, hi2]
    refine hK15 _ ⟨⟨⟨_, _, rfl, by simp, rfl, by simp [CurL, CurOk, getO]⟩, trivial⟩, ?_⟩
    try clear hK15 K15
    refine AAny_all2 (i := 8) (j := 15) (by kernel_rfl) ?_ ?_
    ·
     refine aAt_op rfl rfl fun K16 hK16 => ?_
     simp only [↓bO, bS, bA, bF, ↓reduceIte, Nat.reduceEqDiff, reduceCtorEq, aLoad, ti3, getO, pack, bL, Nat.reduceAdd, Nat.reduceLeDiff, List.length_map, Int.toNat_natCast, Int.natCast_nonneg, gM hx, hi1, hi2]
     refine hK16 _ ⟨⟨⟨_, _, rfl, by simp, rfl, by simp [CurL, CurOk, getO]⟩, trivial⟩, ?_⟩
     try clear hK16 K16
     refine AAny_all1 (i := 15) (by kernel_rfl) ?_
     ·
      refine aAt_op rfl rfl fun K17 hK17 => ?_
      simp only [↓bO, bS, bA, bF, ↓reduceIte, Nat.reduceEqDiff, reduceCtorEq, aCallV, bL, List.length_map, Nat.reduceAdd, Nat.reduceLeDiff, Int.toNat_natCast, Int.natCast_nonneg, gM hx, hi1, hi2]
      refine CCalls.at (root_c { S with F := F1 } hS1.1.inv b (by dsimp only; rw [hS1.1.len]; exact hb)) (.cons (.v _) .nil) (fun _ => .v _) (i0 := 0) (i1 := 1) (i2 := 2) (i3 := 3) (i4 := 4) (i5 := 5) (i6 := 6) (i7 := 7) (by decide) (by simp) ⟨rfl, rfl, rfl, rfl, rfl, rfl, rfl, rfl, trivial⟩ (fun S2 r2 hS2 => ?_)
      try dsimp only at hS2
      simp only [cObsAt, List.zip_cons_cons, List.zip_nil_left, List.zip_nil_right, putsO, putO, Nat.reduceEqDiff, ↓reduceIte]
      obtain ⟨F2, rfl⟩ : ∃ F2, S2 = { S with F := F2 } := ⟨S2.F, hS2.2.2⟩
      dsimp only at hS2
      have hS3 := hS1.1.trans hS2.1
      have hb2 : Rt S.F.up b r2 := (hS1.1.rt _ _).1 hS2.2.1
      obtain ⟨y, hy⟩ : ∃ y, S.W[r2]? = some y := ⟨_, List.getElem?_eq_getElem (by rw [← hS.fl]; exact hb2.lt)⟩
      have hj1 : r2 < S.W.length := (List.getElem?_eq_some_iff.1 hy).1
      have hj2 : (r2 : Int) < (S.W.length : Int) := by omega
      try simp only [bS, bA]
      refine hK17 _ ⟨⟨⟨_, _, rfl, by simp, rfl, by simp [CurL, CurOk, getO]⟩, trivial⟩, ?_⟩
      try clear hK17 K17
      refine AAny_takeK 18 rfl (by kernel_rfl) (by kernel_rfl) (by kernel_rfl) (fun _ _ h => h) fun K18 hK18 => ?_
      simp only [aQuiet, aHeldLoad, CurL, CurOk, ↓bO, bS, bA, bF, ↓reduceIte, Nat.reduceEqDiff, reduceCtorEq, List.length_map, bL, Nat.reduceAdd, Nat.reduceLeDiff, Int.toNat_natCast, Int.natCast_nonneg, gM hx, hi1, hi2, gM hy, hj1, hj2]
      refine hK18 _ ?_; try clear hK18 K18
      refine AAny_all1 (i := 16) (by kernel_rfl) ?_
      ·
       refine aAt_op rfl rfl fun K19 hK19 => ?_
       simp only [↓bO, bS, bA, bF, ↓reduceIte, Nat.reduceEqDiff, reduceCtorEq, getO, aIndexA, es41, Int.natCast_nonneg, Int.ofNat_lt, Int.toNat_natCast, List.length_map, Int.le_refl, Int.toNat_zero, Int.toNat_one, Int.reduceLE, bL, Nat.reduceAdd, Nat.reduceLeDiff, gM hx, hi1, hi2, gM hy, hj1, hj2]
       refine hK19 _ ⟨⟨⟨_, _, rfl, by simp, rfl, by simp [CurL, CurOk, getO]⟩, trivial⟩, ?_⟩
       try clear hK19 K19
       refine AAny_all1 (i := 17) (by kernel_rfl) ?_
       ·
        refine aAt_op rfl rfl fun K20 hK20 => ?_
        simp only [↓bO, bS, bA, bF, ↓reduceIte, Nat.reduceEqDiff, reduceCtorEq, aLoad, ti3, getO, pack, bL, Nat.reduceAdd, Nat.reduceLeDiff, List.length_map, Int.toNat_natCast, Int.natCast_nonneg, gM hx, hi1, hi2, gM hy, hj1, hj2]
        refine hK20 _ ⟨⟨⟨_, _, rfl, by simp, rfl, by simp [CurL, CurOk, getO]⟩, trivial⟩, ?_⟩
        try clear hK20 K20
        refine AAny_takeK 19 rfl (by kernel_rfl) (by kernel_rfl) (by kernel_rfl) (fun _ _ h => h) fun K21 hK21 => ?_
        simp only [aQuiet, aHeldLoad, CurL, CurOk, ↓bO, bS, bA, bF, ↓reduceIte, Nat.reduceEqDiff, reduceCtorEq, List.length_map, bL, Nat.reduceAdd, Nat.reduceLeDiff, Int.toNat_natCast, Int.natCast_nonneg, gM hx, hi1, hi2, gM hy, hj1, hj2]
        refine hK21 _ ?_; try clear hK21 K21
        refine AAny_done (by kernel_rfl) ?_
        simp only [bF]
        try simp only [maskL, setsL, putsO, putO, bA, Nat.reduceEqDiff, ↓reduceIte]
        refine ⟨(F2, r1, r2, x, y), ⟨hS3, hS1.2.1, hb2, hx, hy⟩, ?_⟩
        exact Weak.mk (by simp only [LeL, Le.refl, Le.any, and_self]) (fun _ _ h => h) rfl rfl
    ·
     refine aAt_op rfl rfl fun K22 hK22 => ?_
     simp only [↓bO, bS, bA, bF, ↓reduceIte, Nat.reduceEqDiff, reduceCtorEq, aCallV, bL, List.length_map, Nat.reduceAdd, Nat.reduceLeDiff, Int.toNat_natCast, Int.natCast_nonneg, gM hx, hi1, hi2]
     refine CCalls.at (root_c { S with F := F1 } hS1.1.inv b (by dsimp only; rw [hS1.1.len]; exact hb)) (.cons (.v _) .nil) (fun _ => .v _) (i0 := 0) (i1 := 1) (i2 := 2) (i3 := 3) (i4 := 4) (i5 := 5) (i6 := 6) (i7 := 7) (by decide) (by simp) ⟨rfl, rfl, rfl, rfl, rfl, rfl, rfl, rfl, trivial⟩ (fun S2 r2 hS2 => ?_)
     try dsimp only at hS2
     simp only [cObsAt, List.zip_cons_cons, List.zip_nil_left, List.zip_nil_right, putsO, putO, Nat.reduceEqDiff, ↓reduceIte]
     obtain ⟨F2, rfl⟩ : ∃ F2, S2 = { S with F := F2 } := ⟨S2.F, hS2.2.2⟩
     dsimp only at hS2
     have hS3 := hS1.1.trans hS2.1
     have hb2 : Rt S.F.up b r2 := (hS1.1.rt _ _).1 hS2.2.1
     obtain ⟨y, hy⟩ : ∃ y, S.W[r2]? = some y := ⟨_, List.getElem?_eq_getElem (by rw [← hS.fl]; exact hb2.lt)⟩
     have hj1 : r2 < S.W.length := (List.getElem?_eq_some_iff.1 hy).1
     have hj2 : (r2 : Int) < (S.W.length : Int) := by omega
     try simp only [bS, bA]
     refine hK22 _ ⟨⟨⟨_, _, rfl, by simp, rfl, by simp [CurL, CurOk, getO]⟩, trivial⟩, ?_⟩
     try clear hK22 K22
     refine AAny_all2 (i := 8) (j := 16) (by kernel_rfl) ?_ ?_
     ·
      refine aAt_op rfl rfl fun K23 hK23 => ?_
      simp only [↓bO, bS, bA, bF, ↓reduceIte, Nat.reduceEqDiff, reduceCtorEq, aLoad, ti3, getO, pack, bL, Nat.reduceAdd, Nat.reduceLeDiff, List.length_map, Int.toNat_natCast, Int.natCast_nonneg, gM hx, hi1, hi2, gM hy, hj1, hj2]
      refine hK23 _ ⟨⟨⟨_, _, rfl, by simp, rfl, by simp [CurL, CurOk, getO]⟩, trivial⟩, ?_⟩
      try clear hK23 K23
      refine AAny_takeK 18 rfl (by kernel_rfl) (by kernel_rfl) (by kernel_rfl) (fun _ _ h => h) fun K24 hK24 => ?_
      simp only [aQuiet, aHeldLoad, CurL, CurOk, ↓bO, bS, bA, bF, ↓reduceIte, Nat.reduceEqDiff, reduceCtorEq, List.length_map, bL, Nat.reduceAdd, Nat.reduceLeDiff, Int.toNat_natCast, Int.natCast_nonneg, gM hx, hi1, hi2, gM hy, hj1, hj2]
      refine hK24 _ ?_; try clear hK24 K24
      refine AAny_all1 (i := 16) (by kernel_rfl) ?_
      ·
       refine aAt_op rfl rfl fun K25 hK25 => ?_
       simp only [↓bO, bS, bA, bF, ↓reduceIte, Nat.reduceEqDiff, reduceCtorEq, getO, aIndexA, es41, Int.natCast_nonneg, Int.ofNat_lt, Int.toNat_natCast, List.length_map, Int.le_refl, Int.toNat_zero, Int.toNat_one, Int.reduceLE, bL, Nat.reduceAdd, Nat.reduceLeDiff, gM hx, hi1, hi2, gM hy, hj1, hj2]
       refine hK25 _ ⟨⟨⟨_, _, rfl, by simp, rfl, by simp [CurL, CurOk, getO]⟩, trivial⟩, ?_⟩
       try clear hK25 K25
       refine AAny_all1 (i := 17) (by kernel_rfl) ?_
       ·
        refine aAt_op rfl rfl fun K26 hK26 => ?_
        simp only [↓bO, bS, bA, bF, ↓reduceIte, Nat.reduceEqDiff, reduceCtorEq, aLoad, ti3, getO, pack, bL, Nat.reduceAdd, Nat.reduceLeDiff, List.length_map, Int.toNat_natCast, Int.natCast_nonneg, gM hx, hi1, hi2, gM hy, hj1, hj2]
        refine hK26 _ ⟨⟨⟨_, _, rfl, by simp, rfl, by simp [CurL, CurOk, getO]⟩, trivial⟩, ?_⟩
        try clear hK26 K26
        refine AAny_takeK 19 rfl (by kernel_rfl) (by kernel_rfl) (by kernel_rfl) (fun _ _ h => h) fun K27 hK27 => ?_
        simp only [aQuiet, aHeldLoad, CurL, CurOk, ↓bO, bS, bA, bF, ↓reduceIte, Nat.reduceEqDiff, reduceCtorEq, List.length_map, bL, Nat.reduceAdd, Nat.reduceLeDiff, Int.toNat_natCast, Int.natCast_nonneg, gM hx, hi1, hi2, gM hy, hj1, hj2]
        refine hK27 _ ?_; try clear hK27 K27
        refine AAny_done (by kernel_rfl) ?_
        simp only [bF]
        try simp only [maskL, setsL, putsO, putO, bA, Nat.reduceEqDiff, ↓reduceIte]
        refine ⟨(F2, r1, r2, x, y), ⟨hS3, hS1.2.1, hb2, hx, hy⟩, ?_⟩
        exact Weak.mk (by simp only [LeL, Le.refl, Le.any, and_self]) (fun _ _ h => h) rfl rfl
     ·
      refine aAt_op rfl rfl fun K28 hK28 => ?_
      simp only [↓bO, bS, bA, bF, ↓reduceIte, Nat.reduceEqDiff, reduceCtorEq, getO, aIndexA, es41, Int.natCast_nonneg, Int.ofNat_lt, Int.toNat_natCast, List.length_map, Int.le_refl, Int.toNat_zero, Int.toNat_one, Int.reduceLE, bL, Nat.reduceAdd, Nat.reduceLeDiff, gM hx, hi1, hi2, gM hy, hj1, hj2]
      refine hK28 _ ⟨⟨⟨_, _, rfl, by simp, rfl, by simp [CurL, CurOk, getO]⟩, trivial⟩, ?_⟩
      try clear hK28 K28
      refine AAny_all2 (i := 8) (j := 17) (by kernel_rfl) ?_ ?_
      ·
       refine aAt_op rfl rfl fun K29 hK29 => ?_
       simp only [↓bO, bS, bA, bF, ↓reduceIte, Nat.reduceEqDiff, reduceCtorEq, aLoad, ti3, getO, pack, bL, Nat.reduceAdd, Nat.reduceLeDiff, List.length_map, Int.toNat_natCast, Int.natCast_nonneg, gM hx, hi1, hi2, gM hy, hj1, hj2]
       refine hK29 _ ⟨⟨⟨_, _, rfl, by simp, rfl, by simp [CurL, CurOk, getO]⟩, trivial⟩, ?_⟩
       try clear hK29 K29
       refine AAny_takeK 18 rfl (by kernel_rfl) (by kernel_rfl) (by kernel_rfl) (fun _ _ h => h) fun K30 hK30 => ?_
       simp only [aQuiet, aHeldLoad, CurL, CurOk, ↓bO, bS, bA, bF, ↓reduceIte, Nat.reduceEqDiff, reduceCtorEq, List.length_map, bL, Nat.reduceAdd, Nat.reduceLeDiff, Int.toNat_natCast, Int.natCast_nonneg, gM hx, hi1, hi2, gM hy, hj1, hj2]
       refine hK30 _ ?_; try clear hK30 K30
       refine AAny_all1 (i := 17) (by kernel_rfl) ?_
       ·
        refine aAt_op rfl rfl fun K31 hK31 => ?_
        simp only [↓bO, bS, bA, bF, ↓reduceIte, Nat.reduceEqDiff, reduceCtorEq, aLoad, ti3, getO, pack, bL, Nat.reduceAdd, Nat.reduceLeDiff, List.length_map, Int.toNat_natCast, Int.natCast_nonneg, gM hx, hi1, hi2, gM hy, hj1, hj2]
        refine hK31 _ ⟨⟨⟨_, _, rfl, by simp, rfl, by simp [CurL, CurOk, getO]⟩, trivial⟩, ?_⟩
        try clear hK31 K31
        refine AAny_takeK 19 rfl (by kernel_rfl) (by kernel_rfl) (by kernel_rfl) (fun _ _ h => h) fun K32 hK32 => ?_
        simp only [aQuiet, aHeldLoad, CurL, CurOk, ↓bO, bS, bA, bF, ↓reduceIte, Nat.reduceEqDiff, reduceCtorEq, List.length_map, bL, Nat.reduceAdd, Nat.reduceLeDiff, Int.toNat_natCast, Int.natCast_nonneg, gM hx, hi1, hi2, gM hy, hj1, hj2]
        refine hK32 _ ?_; try clear hK32 K32
        refine AAny_done (by kernel_rfl) ?_
        simp only [bF]
        try simp only [maskL, setsL, putsO, putO, bA, Nat.reduceEqDiff, ↓reduceIte]
        refine ⟨(F2, r1, r2, x, y), ⟨hS3, hS1.2.1, hb2, hx, hy⟩, ?_⟩
        exact Weak.mk (by simp only [LeL, Le.refl, Le.any, and_self]) (fun _ _ h => h) rfl rfl
      ·
       refine aAt_op rfl rfl fun K33 hK33 => ?_
       simp only [↓bO, bS, bA, bF, ↓reduceIte, Nat.reduceEqDiff, reduceCtorEq, aLoad, ti3, getO, pack, bL, Nat.reduceAdd, Nat.reduceLeDiff, List.length_map, Int.toNat_natCast, Int.natCast_nonneg, gM hx, hi1, hi2, gM hy, hj1, hj2]
       refine hK33 _ ⟨⟨⟨_, _, rfl, by simp, rfl, by simp [CurL, CurOk, getO]⟩, trivial⟩, ?_⟩
       try clear hK33 K33
       refine AAny_all1 (i := 8) (by kernel_rfl) ?_
       ·
        refine aAt_op rfl rfl fun K34 hK34 => ?_
        simp only [↓bO, bS, bA, bF, ↓reduceIte, Nat.reduceEqDiff, reduceCtorEq, aLoad, ti3, getO, pack, bL, Nat.reduceAdd, Nat.reduceLeDiff, List.length_map, Int.toNat_natCast, Int.natCast_nonneg, gM hx, hi1, hi2, gM hy, hj1, hj2]
        refine hK34 _ ⟨⟨⟨_, _, rfl, by simp, rfl, by simp [CurL, CurOk, getO]⟩, trivial⟩, ?_⟩
        try clear hK34 K34
        refine AAny_takeK 18 rfl (by kernel_rfl) (by kernel_rfl) (by kernel_rfl) (fun _ _ h => h) fun K35 hK35 => ?_
        simp only [aQuiet, aHeldLoad, CurL, CurOk, ↓bO, bS, bA, bF, ↓reduceIte, Nat.reduceEqDiff, reduceCtorEq, List.length_map, bL, Nat.reduceAdd, Nat.reduceLeDiff, Int.toNat_natCast, Int.natCast_nonneg, gM hx, hi1, hi2, gM hy, hj1, hj2]
        refine hK35 _ ?_; try clear hK35 K35
        refine AAny_takeK 19 rfl (by kernel_rfl) (by kernel_rfl) (by kernel_rfl) (fun _ _ h => h) fun K36 hK36 => ?_
        simp only [aQuiet, aHeldLoad, CurL, CurOk, ↓bO, bS, bA, bF, ↓reduceIte, Nat.reduceEqDiff, reduceCtorEq, List.length_map, bL, Nat.reduceAdd, Nat.reduceLeDiff, Int.toNat_natCast, Int.natCast_nonneg, gM hx, hi1, hi2, gM hy, hj1, hj2]
        refine hK36 _ ?_; try clear hK36 K36
        refine AAny_done (by kernel_rfl) ?_
        simp only [bF]
        try simp only [maskL, setsL, putsO, putO, bA, Nat.reduceEqDiff, ↓reduceIte]
        refine ⟨(F2, r1, r2, x, y), ⟨hS3, hS1.2.1, hb2, hx, hy⟩, ?_⟩
        exact Weak.mk (by simp only [LeL, Le.refl, Le.any, and_self]) (fun _ _ h => h) rfl rfl
   ·
    refine aAt_op rfl rfl fun K37 hK37 => ?_
    simp only [↓bO, bS, bA, bF, ↓reduceIte, Nat.reduceEqDiff, reduceCtorEq, aCallV, bL, List.length_map, Nat.reduceAdd, Nat.reduceLeDiff, Int.toNat_natCast, Int.natCast_nonneg, gM hx, hi1, hi2]
    refine CCalls.at (root_c { S with F := F1 } hS1.1.inv b (by dsimp only; rw [hS1.1.len]; exact hb)) (.cons (.v _) .nil) (fun _ => .v _) (i0 := 0) (i1 := 1) (i2 := 2) (i3 := 3) (i4 := 4) (i5 := 5) (i6 := 6) (i7 := 7) (by decide) (by simp) ⟨rfl, rfl, rfl, rfl, rfl, rfl, rfl, rfl, trivial⟩ (fun S2 r2 hS2 => ?_)
    try dsimp only at hS2
    simp only [cObsAt, List.zip_cons_cons, List.zip_nil_left, List.zip_nil_right, putsO, putO, Nat.reduceEqDiff, ↓reduceIte]
    obtain ⟨F2, rfl⟩ : ∃ F2, S2 = { S with F := F2 } := ⟨S2.F, hS2.2.2⟩
    dsimp only at hS2
    have hS3 := hS1.1.trans hS2.1
    have hb2 : Rt S.F.up b r2 := (hS1.1.rt _ _).1 hS2.2.1
    obtain ⟨y, hy⟩ : ∃ y, S.W[r2]? = some y := ⟨_, List.getElem?_eq_getElem (by rw [← hS.fl]; exact hb2.lt)⟩
    have hj1 : r2 < S.W.length := (List.getElem?_eq_some_iff.1 hy).1
    have hj2 : (r2 : Int) < (S.W.length : Int) := by omega
    try simp only [bS, bA]
    refine hK37 _ ⟨⟨⟨_, _, rfl, by simp, rfl, by simp [CurL, CurOk, getO]⟩, trivial⟩, ?_⟩
    try clear hK37 K37
    refine AAny_all2 (i := 7) (j := 16) (by kernel_rfl) ?_ ?_
    ·
     refine aAt_op rfl rfl fun K38 hK38 => ?_
     simp only [↓bO, bS, bA, bF, ↓reduceIte, Nat.reduceEqDiff, reduceCtorEq, getO, aIndexA, es41, Int.natCast_nonneg, Int.ofNat_lt, Int.toNat_natCast, List.length_map, Int.le_refl, Int.toNat_zero, Int.toNat_one, Int.reduceLE, bL, Nat.reduceAdd, Nat.reduceLeDiff, gM hx, hi1, hi2, gM hy, hj1, hj2]
     refine hK38 _ ⟨⟨⟨_, _, rfl, by simp, rfl, by simp [CurL, CurOk, getO]⟩, trivial⟩, ?_⟩
     try clear hK38 K38
     refine AAny_all2 (i := 8) (j := 16) (by kernel_rfl) ?_ ?_
     ·
      refine aAt_op rfl rfl fun K39 hK39 => ?_
      simp only [↓bO, bS, bA, bF, ↓reduceIte, Nat.reduceEqDiff, reduceCtorEq, aLoad, ti3, getO, pack, bL, Nat.reduceAdd, Nat.reduceLeDiff, List.length_map, Int.toNat_natCast, Int.natCast_nonneg, gM hx, hi1, hi2, gM hy, hj1, hj2]
      refine hK39 _ ⟨⟨⟨_, _, rfl, by simp, rfl, by simp [CurL, CurOk, getO]⟩, trivial⟩, ?_⟩
      try clear hK39 K39
      refine AAny_takeK 18 rfl (by kernel_rfl) (by kernel_rfl) (by kernel_rfl) (fun _ _ h => h) fun K40 hK40 => ?_
      simp only [aQuiet, aHeldLoad, CurL, CurOk, ↓bO, bS, bA, bF, ↓reduceIte, Nat.reduceEqDiff, reduceCtorEq, List.length_map, bL, Nat.reduceAdd, Nat.reduceLeDiff, Int.toNat_natCast, Int.natCast_nonneg, gM hx, hi1, hi2, gM hy, hj1, hj2]
      refine hK40 _ ?_; try clear hK40 K40
      refine AAny_all1 (i := 16) (by kernel_rfl) ?_
      ·
       refine aAt_op rfl rfl fun K41 hK41 => ?_
       simp only [↓bO, bS, bA, bF, ↓reduceIte, Nat.reduceEqDiff, reduceCtorEq, getO, aIndexA, es41, Int.natCast_nonneg, Int.ofNat_lt, Int.toNat_natCast, List.length_map, Int.le_refl, Int.toNat_zero, Int.toNat_one, Int.reduceLE, bL, Nat.reduceAdd, Nat.reduceLeDiff, gM hx, hi1, hi2, gM hy, hj1, hj2]
       refine hK41 _ ⟨⟨⟨_, _, rfl, by simp, rfl, by simp [CurL, CurOk, getO]⟩, trivial⟩, ?_⟩
       try clear hK41 K41
       refine AAny_all1 (i := 17) (by kernel_rfl) ?_
       ·
        refine aAt_op rfl rfl fun K42 hK42 => ?_
        simp only [↓bO, bS, bA, bF, ↓reduceIte, Nat.reduceEqDiff, reduceCtorEq, aLoad, ti3, getO, pack, bL, Nat.reduceAdd, Nat.reduceLeDiff, List.length_map, Int.toNat_natCast, Int.natCast_nonneg, gM hx, hi1, hi2, gM hy, hj1, hj2]
        refine hK42 _ ⟨⟨⟨_, _, rfl, by simp, rfl, by simp [CurL, CurOk, getO]⟩, trivial⟩, ?_⟩
        try clear hK42 K42
        refine AAny_takeK 19 rfl (by kernel_rfl) (by kernel_rfl) (by kernel_rfl) (fun _ _ h => h) fun K43 hK43 => ?_
        simp only [aQuiet, aHeldLoad, CurL, CurOk, ↓bO, bS, bA, bF, ↓reduceIte, Nat.reduceEqDiff, reduceCtorEq, List.length_map, bL, Nat.reduceAdd, Nat.reduceLeDiff, Int.toNat_natCast, Int.natCast_nonneg, gM hx, hi1, hi2, gM hy, hj1, hj2]
        refine hK43 _ ?_; try clear hK43 K43
        refine AAny_done (by kernel_rfl) ?_
        simp only [bF]
        try simp only [maskL, setsL, putsO, putO, bA, Nat.reduceEqDiff, ↓reduceIte]
        refine ⟨(F2, r1, r2, x, y), ⟨hS3, hS1.2.1, hb2, hx, hy⟩, ?_⟩
        exact Weak.mk (by simp only [LeL, Le.refl, Le.any, and_self]) (fun _ _ h => h) rfl rfl
     ·
      refine aAt_op rfl rfl fun K44 hK44 => ?_
      simp only [↓bO, bS, bA, bF, ↓reduceIte, Nat.reduceEqDiff, reduceCtorEq, getO, aIndexA, es41, Int.natCast_nonneg, Int.ofNat_lt, Int.toNat_natCast, List.length_map, Int.le_refl, Int.toNat_zero, Int.toNat_one, Int.reduceLE, bL, Nat.reduceAdd, Nat.reduceLeDiff, gM hx, hi1, hi2, gM hy, hj1, hj2]
      refine hK44 _ ⟨⟨⟨_, _, rfl, by simp, rfl, by simp [CurL, CurOk, getO]⟩, trivial⟩, ?_⟩
      try clear hK44 K44
      refine AAny_all2 (i := 8) (j := 17) (by kernel_rfl) ?_ ?_
      ·
       refine aAt_op rfl rfl fun K45 hK45 => ?_
       simp only [↓bO, bS, bA, bF, ↓reduceIte, Nat.reduceEqDiff, reduceCtorEq, aLoad, ti3, getO, pack, bL, Nat.reduceAdd, Nat.reduceLeDiff, List.length_map, Int.toNat_natCast, Int.natCast_nonneg, gM hx, hi1, hi2, gM hy, hj1, hj2]
       refine hK45 _ ⟨⟨⟨_, _, rfl, by simp, rfl, by simp [CurL, CurOk, getO]⟩, trivial⟩, ?_⟩
       try clear hK45 K45
       refine AAny_takeK 18 rfl (by kernel_rfl) (by kernel_rfl) (by kernel_rfl) (fun _ _ h => h) fun K46 hK46 => ?_
       simp only [aQuiet, aHeldLoad, CurL, CurOk, ↓bO, bS, bA, bF, ↓reduceIte, Nat.reduceEqDiff, reduceCtorEq, List.length_map, bL, Nat.reduceAdd, Nat.reduceLeDiff, Int.toNat_natCast, Int.natCast_nonneg, gM hx, hi1, hi2, gM hy, hj1, hj2]
       refine hK46 _ ?_; try clear hK46 K46
       refine AAny_all1 (i := 17) (by kernel_rfl) ?_
       ·
        refine aAt_op rfl rfl fun K47 hK47 => ?_
        simp only [↓bO, bS, bA, bF, ↓reduceIte, Nat.reduceEqDiff, reduceCtorEq, aLoad, ti3, getO, pack, bL, Nat.reduceAdd, Nat.reduceLeDiff, List.length_map, Int.toNat_natCast, Int.natCast_nonneg, gM hx, hi1, hi2, gM hy, hj1, hj2]
        refine hK47 _ ⟨⟨⟨_, _, rfl, by simp, rfl, by simp [CurL, CurOk, getO]⟩, trivial⟩, ?_⟩
        try clear hK47 K47
        refine AAny_takeK 19 rfl (by kernel_rfl) (by kernel_rfl) (by kernel_rfl) (fun _ _ h => h) fun K48 hK48 => ?_
        simp only [aQuiet, aHeldLoad, CurL, CurOk, ↓bO, bS, bA, bF, ↓reduceIte, Nat.reduceEqDiff, reduceCtorEq, List.length_map, bL, Nat.reduceAdd, Nat.reduceLeDiff, Int.toNat_natCast, Int.natCast_nonneg, gM hx, hi1, hi2, gM hy, hj1, hj2]
        refine hK48 _ ?_; try clear hK48 K48
        refine AAny_done (by kernel_rfl) ?_
        simp only [bF]
        try simp only [maskL, setsL, putsO, putO, bA, Nat.reduceEqDiff, ↓reduceIte]
        refine ⟨(F2, r1, r2, x, y), ⟨hS3, hS1.2.1, hb2, hx, hy⟩, ?_⟩
        exact Weak.mk (by simp only [LeL, Le.refl, Le.any, and_self]) (fun _ _ h => h) rfl rfl
      ·
       refine aAt_op rfl rfl fun K49 hK49 => ?_
       simp only [↓bO, bS, bA, bF, ↓reduceIte, Nat.reduceEqDiff, reduceCtorEq, aLoad, ti3, getO, pack, bL, Nat.reduceAdd, Nat.reduceLeDiff, List.length_map, Int.toNat_natCast, Int.natCast_nonneg, gM hx, hi1, hi2, gM hy, hj1, hj2]
       refine hK49 _ ⟨⟨⟨_, _, rfl, by simp, rfl, by simp [CurL, CurOk, getO]⟩, trivial⟩, ?_⟩
       try clear hK49 K49
       refine AAny_all1 (i := 8) (by kernel_rfl) ?_
       ·
        refine aAt_op rfl rfl fun K50 hK50 => ?_
        simp only [↓bO, bS, bA, bF, ↓reduceIte, Nat.reduceEqDiff, reduceCtorEq, aLoad, ti3, getO, pack, bL, Nat.reduceAdd, Nat.reduceLeDiff, List.length_map, Int.toNat_natCast, Int.natCast_nonneg, gM hx, hi1, hi2, gM hy, hj1, hj2]
        refine hK50 _ ⟨⟨⟨_, _, rfl, by simp, rfl, by simp [CurL, CurOk, getO]⟩, trivial⟩, ?_⟩
        try clear hK50 K50
        refine AAny_takeK 18 rfl (by kernel_rfl) (by kernel_rfl) (by kernel_rfl) (fun _ _ h => h) fun K51 hK51 => ?_
        simp only [aQuiet, aHeldLoad, CurL, CurOk, ↓bO, bS, bA, bF, ↓reduceIte, Nat.reduceEqDiff, reduceCtorEq, List.length_map, bL, Nat.reduceAdd, Nat.reduceLeDiff, Int.toNat_natCast, Int.natCast_nonneg, gM hx, hi1, hi2, gM hy, hj1, hj2]
        refine hK51 _ ?_; try clear hK51 K51
        refine AAny_takeK 19 rfl (by kernel_rfl) (by kernel_rfl) (by kernel_rfl) (fun _ _ h => h) fun K52 hK52 => ?_
        simp only [aQuiet, aHeldLoad, CurL, CurOk, ↓bO, bS, bA, bF, ↓reduceIte, Nat.reduceEqDiff, reduceCtorEq, List.length_map, bL, Nat.reduceAdd, Nat.reduceLeDiff, Int.toNat_natCast, Int.natCast_nonneg, gM hx, hi1, hi2, gM hy, hj1, hj2]
        refine hK52 _ ?_; try clear hK52 K52
        refine AAny_done (by kernel_rfl) ?_
        simp only [bF]
        try simp only [maskL, setsL, putsO, putO, bA, Nat.reduceEqDiff, ↓reduceIte]
        refine ⟨(F2, r1, r2, x, y), ⟨hS3, hS1.2.1, hb2, hx, hy⟩, ?_⟩
        exact Weak.mk (by simp only [LeL, Le.refl, Le.any, and_self]) (fun _ _ h => h) rfl rfl
    ·
     refine aAt_op rfl rfl fun K53 hK53 => ?_
     simp only [↓bO, bS, bA, bF, ↓reduceIte, Nat.reduceEqDiff, reduceCtorEq, getO, aIndexA, es41, Int.natCast_nonneg, Int.ofNat_lt, Int.toNat_natCast, List.length_map, Int.le_refl, Int.toNat_zero, Int.toNat_one, Int.reduceLE, bL, Nat.reduceAdd, Nat.reduceLeDiff, gM hx, hi1, hi2, gM hy, hj1, hj2]
     refine hK53 _ ⟨⟨⟨_, _, rfl, by simp, rfl, by simp [CurL, CurOk, getO]⟩, trivial⟩, ?_⟩
     try clear hK53 K53
     refine AAny_all2 (i := 7) (j := 17) (by kernel_rfl) ?_ ?_
     ·
      refine aAt_op rfl rfl fun K54 hK54 => ?_
      simp only [↓bO, bS, bA, bF, ↓reduceIte, Nat.reduceEqDiff, reduceCtorEq, getO, aIndexA, es41, Int.natCast_nonneg, Int.ofNat_lt, Int.toNat_natCast, List.length_map, Int.le_refl, Int.toNat_zero, Int.toNat_one, Int.reduceLE, bL, Nat.reduceAdd, Nat.reduceLeDiff, gM hx, hi1, hi2, gM hy, hj1, hj2]
      refine hK54 _ ⟨⟨⟨_, _, rfl, by simp, rfl, by simp [CurL, CurOk, getO]⟩, trivial⟩, ?_⟩
      try clear hK54 K54
      refine AAny_all2 (i := 8) (j := 17) (by kernel_rfl) ?_ ?_
      ·
       refine aAt_op rfl rfl fun K55 hK55 => ?_
       simp only [↓bO, bS, bA, bF, ↓reduceIte, Nat.reduceEqDiff, reduceCtorEq, aLoad, ti3, getO, pack, bL, Nat.reduceAdd, Nat.reduceLeDiff, List.length_map, Int.toNat_natCast, Int.natCast_nonneg, gM hx, hi1, hi2, gM hy, hj1, hj2]
       refine hK55 _ ⟨⟨⟨_, _, rfl, by simp, rfl, by simp [CurL, CurOk, getO]⟩, trivial⟩, ?_⟩
       try clear hK55 K55
       refine AAny_takeK 18 rfl (by kernel_rfl) (by kernel_rfl) (by kernel_rfl) (fun _ _ h => h) fun K56 hK56 => ?_
       simp only [aQuiet, aHeldLoad, CurL, CurOk, ↓bO, bS, bA, bF, ↓reduceIte, Nat.reduceEqDiff, reduceCtorEq, List.length_map, bL, Nat.reduceAdd, Nat.reduceLeDiff, Int.toNat_natCast, Int.natCast_nonneg, gM hx, hi1, hi2, gM hy, hj1, hj2]
       refine hK56 _ ?_; try clear hK56 K56
       refine AAny_all1 (i := 17) (by kernel_rfl) ?_
       ·
        refine aAt_op rfl rfl fun K57 hK57 => ?_
        simp only [↓bO, bS, bA, bF, ↓reduceIte, Nat.reduceEqDiff, reduceCtorEq, aLoad, ti3, getO, pack, bL, Nat.reduceAdd, Nat.reduceLeDiff, List.length_map, Int.toNat_natCast, Int.natCast_nonneg, gM hx, hi1, hi2, gM hy, hj1, hj2]
        refine hK57 _ ⟨⟨⟨_, _, rfl, by simp, rfl, by simp [CurL, CurOk, getO]⟩, trivial⟩, ?_⟩
        try clear hK57 K57
        refine AAny_takeK 19 rfl (by kernel_rfl) (by kernel_rfl) (by kernel_rfl) (fun _ _ h => h) fun K58 hK58 => ?_
        simp only [aQuiet, aHeldLoad, CurL, CurOk, ↓bO, bS, bA, bF, ↓reduceIte, Nat.reduceEqDiff, reduceCtorEq, List.length_map, bL, Nat.reduceAdd, Nat.reduceLeDiff, Int.toNat_natCast, Int.natCast_nonneg, gM hx, hi1, hi2, gM hy, hj1, hj2]
        refine hK58 _ ?_; try clear hK58 K58
        refine AAny_done (by kernel_rfl) ?_
        simp only [bF]
        try simp only [maskL, setsL, putsO, putO, bA, Nat.reduceEqDiff, ↓reduceIte]
        refine ⟨(F2, r1, r2, x, y), ⟨hS3, hS1.2.1, hb2, hx, hy⟩, ?_⟩
        exact Weak.mk (by simp only [LeL, Le.refl, Le.any, and_self]) (fun _ _ h => h) rfl rfl
      ·
       refine aAt_op rfl rfl fun K59 hK59 => ?_
       simp only [↓bO, bS, bA, bF, ↓reduceIte, Nat.reduceEqDiff, reduceCtorEq, aLoad, ti3, getO, pack, bL, Nat.reduceAdd, Nat.reduceLeDiff, List.length_map, Int.toNat_natCast, Int.natCast_nonneg, gM hx, hi1, hi2, gM hy, hj1, hj2]
       refine hK59 _ ⟨⟨⟨_, _, rfl, by simp, rfl, by simp [CurL, CurOk, getO]⟩, trivial⟩, ?_⟩
       try clear hK59 K59
       refine AAny_all1 (i := 8) (by kernel_rfl) ?_
       ·
        refine aAt_op rfl rfl fun K60 hK60 => ?_
        simp only [↓bO, bS, bA, bF, ↓reduceIte, Nat.reduceEqDiff, reduceCtorEq, aLoad, ti3, getO, pack, bL, Nat.reduceAdd, Nat.reduceLeDiff, List.length_map, Int.toNat_natCast, Int.natCast_nonneg, gM hx, hi1, hi2, gM hy, hj1, hj2]
        refine hK60 _ ⟨⟨⟨_, _, rfl, by simp, rfl, by simp [CurL, CurOk, getO]⟩, trivial⟩, ?_⟩
        try clear hK60 K60
        refine AAny_takeK 18 rfl (by kernel_rfl) (by kernel_rfl) (by kernel_rfl) (fun _ _ h => h) fun K61 hK61 => ?_
        simp only [aQuiet, aHeldLoad, CurL, CurOk, ↓bO, bS, bA, bF, ↓reduceIte, Nat.reduceEqDiff, reduceCtorEq, List.length_map, bL, Nat.reduceAdd, Nat.reduceLeDiff, Int.toNat_natCast, Int.natCast_nonneg, gM hx, hi1, hi2, gM hy, hj1, hj2]
        refine hK61 _ ?_; try clear hK61 K61
        refine AAny_takeK 19 rfl (by kernel_rfl) (by kernel_rfl) (by kernel_rfl) (fun _ _ h => h) fun K62 hK62 => ?_
        simp only [aQuiet, aHeldLoad, CurL, CurOk, ↓bO, bS, bA, bF, ↓reduceIte, Nat.reduceEqDiff, reduceCtorEq, List.length_map, bL, Nat.reduceAdd, Nat.reduceLeDiff, Int.toNat_natCast, Int.natCast_nonneg, gM hx, hi1, hi2, gM hy, hj1, hj2]
        refine hK62 _ ?_; try clear hK62 K62
        refine AAny_done (by kernel_rfl) ?_
        simp only [bF]
        try simp only [maskL, setsL, putsO, putO, bA, Nat.reduceEqDiff, ↓reduceIte]
        refine ⟨(F2, r1, r2, x, y), ⟨hS3, hS1.2.1, hb2, hx, hy⟩, ?_⟩
        exact Weak.mk (by simp only [LeL, Le.refl, Le.any, and_self]) (fun _ _ h => h) rfl rfl
     ·
      refine aAt_op rfl rfl fun K63 hK63 => ?_
      simp only [↓bO, bS, bA, bF, ↓reduceIte, Nat.reduceEqDiff, reduceCtorEq, aLoad, ti3, getO, pack, bL, Nat.reduceAdd, Nat.reduceLeDiff, List.length_map, Int.toNat_natCast, Int.natCast_nonneg, gM hx, hi1, hi2, gM hy, hj1, hj2]
      refine hK63 _ ⟨⟨⟨_, _, rfl, by simp, rfl, by simp [CurL, CurOk, getO]⟩, trivial⟩, ?_⟩
      try clear hK63 K63
      refine AAny_all1 (i := 7) (by kernel_rfl) ?_
      ·
       refine aAt_op rfl rfl fun K64 hK64 => ?_
       simp only [↓bO, bS, bA, bF, ↓reduceIte, Nat.reduceEqDiff, reduceCtorEq, getO, aIndexA, es41, Int.natCast_nonneg, Int.ofNat_lt, Int.toNat_natCast, List.length_map, Int.le_refl, Int.toNat_zero, Int.toNat_one, Int.reduceLE, bL, Nat.reduceAdd, Nat.reduceLeDiff, gM hx, hi1, hi2, gM hy, hj1, hj2]
       refine hK64 _ ⟨⟨⟨_, _, rfl, by simp, rfl, by simp [CurL, CurOk, getO]⟩, trivial⟩, ?_⟩
       try clear hK64 K64
       refine AAny_all1 (i := 8) (by kernel_rfl) ?_
       ·
        refine aAt_op rfl rfl fun K65 hK65 => ?_
        simp only [↓bO, bS, bA, bF, ↓reduceIte, Nat.reduceEqDiff, reduceCtorEq, aLoad, ti3, getO, pack, bL, Nat.reduceAdd, Nat.reduceLeDiff, List.length_map, Int.toNat_natCast, Int.natCast_nonneg, gM hx, hi1, hi2, gM hy, hj1, hj2]
        refine hK65 _ ⟨⟨⟨_, _, rfl, by simp, rfl, by simp [CurL, CurOk, getO]⟩, trivial⟩, ?_⟩
        try clear hK65 K65
        refine AAny_takeK 18 rfl (by kernel_rfl) (by kernel_rfl) (by kernel_rfl) (fun _ _ h => h) fun K66 hK66 => ?_
        simp only [aQuiet, aHeldLoad, CurL, CurOk, ↓bO, bS, bA, bF, ↓reduceIte, Nat.reduceEqDiff, reduceCtorEq, List.length_map, bL, Nat.reduceAdd, Nat.reduceLeDiff, Int.toNat_natCast, Int.natCast_nonneg, gM hx, hi1, hi2, gM hy, hj1, hj2]
        refine hK66 _ ?_; try clear hK66 K66
        refine AAny_takeK 19 rfl (by kernel_rfl) (by kernel_rfl) (by kernel_rfl) (fun _ _ h => h) fun K67 hK67 => ?_
        simp only [aQuiet, aHeldLoad, CurL, CurOk, ↓bO, bS, bA, bF, ↓reduceIte, Nat.reduceEqDiff, reduceCtorEq, List.length_map, bL, Nat.reduceAdd, Nat.reduceLeDiff, Int.toNat_natCast, Int.natCast_nonneg, gM hx, hi1, hi2, gM hy, hj1, hj2]
        refine hK67 _ ?_; try clear hK67 K67
        refine AAny_done (by kernel_rfl) ?_
        simp only [bF]
        try simp only [maskL, setsL, putsO, putO, bA, Nat.reduceEqDiff, ↓reduceIte]
        refine ⟨(F2, r1, r2, x, y), ⟨hS3, hS1.2.1, hb2, hx, hy⟩, ?_⟩
        exact Weak.mk (by simp only [LeL, Le.refl, Le.any, and_self]) (fun _ _ h => h) rfl rfl
 simp only [maskL, setsL, putsO, putO, bA, Nat.reduceEqDiff, ↓reduceIte]
 refine AWp_seqK fun K68 hK68 => ?_
 refine AWp_region ?_
 refine aops_chunk 2 fun C69 hC69 => ?_
 simp only [bL, ↓bO, bS, bA, bF, ↓reduceIte, Nat.reduceEqDiff, reduceCtorEq, List.length_map, Nat.reduceAdd, Nat.reduceLeDiff, Int.toNat_natCast, Int.natCast_nonneg]
 refine hC69 _ ?_; clear hC69 C69
 simp only [bL]
 refine aops_chunk 2 fun C70 hC70 => ?_
 simp only [bL, ↓bO, bS, bA, bF, ↓reduceIte, Nat.reduceEqDiff, reduceCtorEq, aField, fo89_2, Nat.reduceAdd, aLoad, ti81, getO, pack, Nat.reduceLeDiff, List.length_map, Int.toNat_natCast, Int.natCast_nonneg]
 refine hC70 _ ?_; clear hC70 C70
 simp only [bL]
 refine aops_chunk 2 fun C71 hC71 => ?_
 simp only [bL, ↓bO, bS, bA, bF, ↓reduceIte, Nat.reduceEqDiff, reduceCtorEq, List.length_map, Nat.reduceAdd, Nat.reduceLeDiff, Int.toNat_natCast, Int.natCast_nonneg]
 refine hC71 _ ?_; clear hC71 C71
 simp only [bL]
 refine aops_chunk 1 fun C72 hC72 => ?_
 simp only [bL, ↓bO, bS, bA, bF, ↓reduceIte, Nat.reduceEqDiff, reduceCtorEq, aCallV, List.length_map, Nat.reduceAdd, Nat.reduceLeDiff, Int.toNat_natCast, Int.natCast_nonneg]
 refine FCalls.at (Join_f j.1 hj.1.inv a b (by rw [hj.1.len]; exact ha) (by rw [hj.1.len]; exact hb)) (.cons (.v _) (.cons (.v _) .nil)) (fun _ => .tup (.cons (.v _) (.cons (.v _) .nil))) (i := 4) (j := 5) (k := 6) rfl rfl rfl (by decide) (by decide) (by decide) (by first | omega | (simp only; omega)) (by first | omega | (simp only; omega)) (by first | omega | (simp only; omega)) (fun G3 r hG3 => ?_)
 try dsimp only at hG3
 simp only [putO, Nat.reduceEqDiff, ↓reduceIte]
 try simp only [bS, bA, bF]
 refine hC72 _ ?_; clear hC72 C72
 simp only [bL]
 refine aops_chunk 2 fun C73 hC73 => ?_
 simp only [bL, ↓bO, bS, bA, bF, ↓reduceIte, Nat.reduceEqDiff, reduceCtorEq, aExtract, Nat.reduceAdd, Nat.reduceLT, Nat.zero_lt_succ, List.length_map, Nat.reduceLeDiff, Int.toNat_natCast, Int.natCast_nonneg]
 refine hC73 _ ?_; clear hC73 C73
 simp only [bL]
 refine aops_chunk 2 fun C74 hC74 => ?_
 simp only [bL, ↓bO, bS, bA, bF, ↓reduceIte, Nat.reduceEqDiff, reduceCtorEq, aExtract, Nat.reduceAdd, Nat.reduceLT, Nat.zero_lt_succ, List.length_map, Nat.reduceLeDiff, Int.toNat_natCast, Int.natCast_nonneg]
 refine hC74 _ ?_; clear hC74 C74
 simp only [bL]
 simp only [↓bO, bS, bA, bF, ↓reduceIte, Nat.reduceEqDiff, reduceCtorEq, List.length_map, bL, Nat.reduceAdd, Nat.reduceLeDiff, Int.toNat_natCast, Int.natCast_nonneg]
 refine hK68 _ ?_; try clear hK68 K68
 refine AWp_seqK fun K75 hK75 => ?_
 refine AWp_seqK fun K76 hK76 => ?_
 refine AWp_region ?_
 simp only [↓bO, bS, bA, bF, ↓reduceIte, Nat.reduceEqDiff, reduceCtorEq, aUn, List.length_map, bL, Nat.reduceAdd, Nat.reduceLeDiff, Int.toNat_natCast, Int.natCast_nonneg]
 refine hK76 _ ?_; try clear hK76 K76
 refine AWp_cond rfl (fun hb45 => ?_) (fun hb45 => ?_)
 ·
  refine AWp_seqK fun K77 hK77 => ?_
  refine AWp_region ?_
  simp only [↓bO, bS, bA, bF, ↓reduceIte, Nat.reduceEqDiff, reduceCtorEq, List.length_map, bL, Nat.reduceAdd, Nat.reduceLeDiff, Int.toNat_natCast, Int.natCast_nonneg]
  refine hK77 _ ?_; try clear hK77 K77
  refine AWp_ret ?_
  try simp only [bF, retQ, aRes, tupOf, bS, bA]
  refine ⟨_, enumO 0 (cObs ({ S with F := G3 })), ⟨({ S with F := G3 }, ([], true)), ?_, rfl, rfl⟩, .tup ⟨.data (pC_data _), .v _ _, trivial⟩, cUnd (by omega) _, ?_, ?_, by omega⟩
  · exact ⟨⟨rfl, rfl, r.1, r.2, FJoin.of hj.1 hG3, .inl ⟨by simpa using hb45, rfl, rfl⟩⟩, rfl⟩
  ·
   exact Le.tup ⟨Le.slNil 2, .refl _, trivial⟩
  · first | (refine ⟨0, rfl, rfl⟩) | (refine ⟨0, by simp only [cObs, enumO, List.drop_zero, List.drop_succ_cons, Nat.reduceAdd], rfl⟩)
 ·
  refine AWp_skip ?_
  try simp only [bF]
  refine hK75 _ ?_; try clear hK75 K75
  have hrl := hG3.rlt
  have hfl9 := hj.1.len
  have hfl8 := hS.fl
  obtain ⟨z, hz⟩ : ∃ z, S.W[r.1]? = some z := ⟨_, List.getElem?_eq_getElem (by dsimp only at hrl; omega)⟩
  have hk1 : r.1 < S.W.length := (List.getElem?_eq_some_iff.1 hz).1
  have hk2 : (r.1 : Int) < (S.W.length : Int) := by omega
  have hz2 : (S.W.set r.1 (max j.2.2.2.1 j.2.2.2.2))[r.1]? = some (max j.2.2.2.1 j.2.2.2.2) := by rw [List.getElem?_set_self hk1]
  refine AWp_seqK fun K78 hK78 => ?_
  refine AWp_region ?_
  refine aops_chunk 2 fun C79 hC79 => ?_
  simp only [bL, ↓bO, bS, bA, bF, ↓reduceIte, Nat.reduceEqDiff, reduceCtorEq, List.length_map, Nat.reduceAdd, Nat.reduceLeDiff, Int.toNat_natCast, Int.natCast_nonneg, gM hz, gM hz2, hk1, hk2, setIC, intC, List.length_set, List.set_set]
  refine hC79 _ ?_; clear hC79 C79
  simp only [bL]
  refine aops_chunk 2 fun C80 hC80 => ?_
  simp only [bL, ↓bO, bS, bA, bF, ↓reduceIte, Nat.reduceEqDiff, reduceCtorEq, aField, fo89_3, Nat.reduceAdd, aLoad, ti41, getO, pack, Nat.reduceLeDiff, List.length_map, Int.toNat_natCast, Int.natCast_nonneg, gM hz, gM hz2, hk1, hk2, setIC, intC, List.length_set, List.set_set]
  refine hC80 _ ?_; clear hC80 C80
  simp only [bL]
  refine aops_chunk 2 fun C81 hC81 => ?_
  simp only [bL, ↓bO, bS, bA, bF, ↓reduceIte, Nat.reduceEqDiff, reduceCtorEq, List.length_map, Nat.reduceAdd, Nat.reduceLeDiff, Int.toNat_natCast, Int.natCast_nonneg, gM hz, gM hz2, hk1, hk2, setIC, intC, List.length_set, List.set_set]
  refine hC81 _ ?_; clear hC81 C81
  simp only [bL]
  refine aops_chunk 2 fun C82 hC82 => ?_
  simp only [bL, ↓bO, bS, bA, bF, ↓reduceIte, Nat.reduceEqDiff, reduceCtorEq, aMore, aMinMax, List.length_map, Nat.reduceAdd, Nat.reduceLeDiff, Int.toNat_natCast, Int.natCast_nonneg, gM hz, gM hz2, hk1, hk2, setIC, intC, List.length_set, List.set_set]
  refine hC82 _ ?_; clear hC82 C82
  simp only [bL]
  simp only [↓bO, bS, bA, bF, ↓reduceIte, Nat.reduceEqDiff, reduceCtorEq, getO, aIndexA, es41, Int.natCast_nonneg, Int.ofNat_lt, Int.toNat_natCast, List.length_map, Int.le_refl, Int.toNat_zero, Int.toNat_one, Int.reduceLE, aStore, ti3, putO, splice, bL, Nat.reduceAdd, Nat.reduceLeDiff, gM hz, gM hz2, hk1, hk2, setIC, intC, List.length_set, List.set_set]
  refine hK78 _ ?_; try clear hK78 K78
  refine AWp_seqK fun K83 hK83 => ?_
  refine AWp_seqK fun K84 hK84 => ?_
  refine AWp_region ?_
  refine aops_chunk 2 fun C85 hC85 => ?_
  simp only [bL, ↓bO, bS, bA, bF, ↓reduceIte, Nat.reduceEqDiff, reduceCtorEq, aBin, List.length_map, Nat.reduceAdd, Nat.reduceLeDiff, Int.toNat_natCast, Int.natCast_nonneg, gM hz, gM hz2, hk1, hk2, setIC, intC, List.length_set, List.set_set]
  refine hC85 _ ?_; clear hC85 C85
  simp only [bL]
  refine aops_chunk 1 fun C86 hC86 => ?_
  simp only [bL, ↓bO, bS, bA, bF, ↓reduceIte, Nat.reduceEqDiff, reduceCtorEq, List.length_map, Nat.reduceAdd, Nat.reduceLeDiff, Int.toNat_natCast, Int.natCast_nonneg, gM hz, gM hz2, hk1, hk2, setIC, intC, List.length_set, List.set_set]
  refine hC86 _ ?_; clear hC86 C86
  simp only [bL]
  refine aops_case 57 rfl (fun hc57 => ?_) (fun hc57 => ?_)
  ·
   simp only [List.set_cons_zero, List.set_cons_succ]
   have hneg : j.2.2.2.1 < 0 ∨ j.2.2.2.2 < 0 := .inl (by simpa using hc57)
   refine aops_chunk 2 fun C87 hC87 => ?_
   simp only [bL, ↓bO, bS, bA, bF, ↓reduceIte, Nat.reduceEqDiff, reduceCtorEq, undef, aBin, List.length_map, Nat.reduceAdd, Nat.reduceLeDiff, Int.toNat_natCast, Int.natCast_nonneg, gM hz, gM hz2, hk1, hk2, setIC, intC, List.length_set, List.set_set]
   refine hC87 _ ?_; clear hC87 C87
   simp only [bL]
   simp only [↓bO, bS, bA, bF, ↓reduceIte, Nat.reduceEqDiff, reduceCtorEq, aBool, List.length_map, bL, Nat.reduceAdd, Nat.reduceLeDiff, Int.toNat_natCast, Int.natCast_nonneg, gM hz, gM hz2, hk1, hk2, setIC, intC, List.length_set, List.set_set]
   refine hK84 _ ?_; try clear hK84 K84
   refine AWp_cond (b := true) (by first | exact rfl | exact congrArg (fun b => AV.v (.bool b)) hb60) (fun _ => ?_) (fun h => (by cases h))
   refine AWp_seqK fun K88 hK88 => ?_
   refine AWp_region ?_
   simp only [↓bO, bS, bA, bF, ↓reduceIte, Nat.reduceEqDiff, reduceCtorEq, List.length_map, bL, Nat.reduceAdd, Nat.reduceLeDiff, Int.toNat_natCast, Int.natCast_nonneg, gM hz, gM hz2, hk1, hk2, setIC, intC, List.length_set, List.set_set]
   refine hK88 _ ?_; try clear hK88 K88
   refine AWp_ret ?_
   try simp only [bF, retQ, aRes, tupOf, bS, bA]
   refine ⟨_, enumO 0 (cObs ({ S with F := G3, W := S.W.set r.1 (max j.2.2.2.1 j.2.2.2.2) })), ⟨({ S with F := G3, W := S.W.set r.1 (max j.2.2.2.1 j.2.2.2.2) }, ([], true)), ?_, rfl, rfl⟩, .tup ⟨.data (pC_data _), .v _ _, trivial⟩, cUnd (by omega) _, ?_, ?_, by omega⟩
   · exact ⟨⟨rfl, rfl, r.1, r.2, FJoin.of hj.1 hG3, .inr ⟨by simpa using hb45, j.2.1, j.2.2.1, j.2.2.2.1, j.2.2.2.2, hj.2.1, hj.2.2.1, hj.2.2.2.1, hj.2.2.2.2, .inl ⟨hneg, rfl, rfl⟩⟩⟩, rfl⟩
   ·
    exact Le.tup ⟨Le.slNil 2, .refl _, trivial⟩
   · first | (refine ⟨0, rfl, rfl⟩) | (refine ⟨0, by simp only [cObs, enumO, List.drop_zero, List.drop_succ_cons, Nat.reduceAdd, List.length_set], rfl⟩)
  ·
   simp only [List.set_cons_zero, List.set_cons_succ]
   have hx0 : 0 ≤ j.2.2.2.1 := by simpa using hc57
   refine aops_chunk 2 fun C89 hC89 => ?_
   simp only [bL, ↓bO, bS, bA, bF, ↓reduceIte, Nat.reduceEqDiff, reduceCtorEq, undef, aBin, List.length_map, Nat.reduceAdd, Nat.reduceLeDiff, Int.toNat_natCast, Int.natCast_nonneg, gM hz, gM hz2, hk1, hk2, setIC, intC, List.length_set, List.set_set]
   refine hC89 _ ?_; clear hC89 C89
   simp only [bL]
   simp only [↓bO, bS, bA, bF, ↓reduceIte, Nat.reduceEqDiff, reduceCtorEq, aBool, List.length_map, bL, Nat.reduceAdd, Nat.reduceLeDiff, Int.toNat_natCast, Int.natCast_nonneg, gM hz, gM hz2, hk1, hk2, setIC, intC, List.length_set, List.set_set]
   refine hK84 _ ?_; try clear hK84 K84
   refine AWp_cond rfl (fun hb60 => ?_) (fun hb60 => ?_)
   ·
    have hneg : j.2.2.2.1 < 0 ∨ j.2.2.2.2 < 0 := .inr (by simpa using hb60)
    refine AWp_seqK fun K90 hK90 => ?_
    refine AWp_region ?_
    simp only [↓bO, bS, bA, bF, ↓reduceIte, Nat.reduceEqDiff, reduceCtorEq, List.length_map, bL, Nat.reduceAdd, Nat.reduceLeDiff, Int.toNat_natCast, Int.natCast_nonneg, gM hz, gM hz2, hk1, hk2, setIC, intC, List.length_set, List.set_set]
    refine hK90 _ ?_; try clear hK90 K90
    refine AWp_ret ?_
    try simp only [bF, retQ, aRes, tupOf, bS, bA]
    refine ⟨_, enumO 0 (cObs ({ S with F := G3, W := S.W.set r.1 (max j.2.2.2.1 j.2.2.2.2) })), ⟨({ S with F := G3, W := S.W.set r.1 (max j.2.2.2.1 j.2.2.2.2) }, ([], true)), ?_, rfl, rfl⟩, .tup ⟨.data (pC_data _), .v _ _, trivial⟩, cUnd (by omega) _, ?_, ?_, by omega⟩
    · exact ⟨⟨rfl, rfl, r.1, r.2, FJoin.of hj.1 hG3, .inr ⟨by simpa using hb45, j.2.1, j.2.2.1, j.2.2.2.1, j.2.2.2.2, hj.2.1, hj.2.2.1, hj.2.2.2.1, hj.2.2.2.2, .inl ⟨hneg, rfl, rfl⟩⟩⟩, rfl⟩
    ·
     exact Le.tup ⟨Le.slNil 2, .refl _, trivial⟩
    · first | (refine ⟨0, rfl, rfl⟩) | (refine ⟨0, by simp only [cObs, enumO, List.drop_zero, List.drop_succ_cons, Nat.reduceAdd, List.length_set], rfl⟩)
   ·
    have hy0 : 0 ≤ j.2.2.2.2 := by simpa using hb60
    obtain ⟨gx, hgx⟩ : ∃ g, S.G.N[(j.2.2.2.1).toNat]? = some g := ⟨_, List.getElem?_eq_getElem (by have := hS.wr _ (List.mem_of_getElem? hj.2.2.2.1); omega)⟩
    obtain ⟨gy, hgy⟩ : ∃ g, S.G.N[(j.2.2.2.2).toNat]? = some g := ⟨_, List.getElem?_eq_getElem (by have := hS.wr _ (List.mem_of_getElem? hj.2.2.2.2); omega)⟩
    have hPx := Parts_calls S.G j.2.2.2.1 hpl
    rw [GS.parts_in hx0 hgx] at hPx
    have hPy := Parts_calls S.G j.2.2.2.2 hpl
    rw [GS.parts_in hy0 hgy] at hPy
    have hlx := hS.pl gx (List.mem_of_getElem? hgx)
    have hly := hS.pl gy (List.mem_of_getElem? hgy)
    refine AWp_skip ?_
    try simp only [bF]
    refine hK83 _ ?_; try clear hK83 K83
    refine AWp_seqK fun K91 hK91 => ?_
    refine AWp_region ?_
    refine aops_chunk 2 fun C92 hC92 => ?_
    simp only [bL, ↓bO, bS, bA, bF, ↓reduceIte, Nat.reduceEqDiff, reduceCtorEq, List.length_map, Nat.reduceAdd, Nat.reduceLeDiff, Int.toNat_natCast, Int.natCast_nonneg, gM hz, gM hz2, hk1, hk2, setIC, intC, List.length_set, List.set_set]
    refine hC92 _ ?_; clear hC92 C92
    simp only [bL]
    refine aops_chunk 2 fun C93 hC93 => ?_
    simp only [bL, ↓bO, bS, bA, bF, ↓reduceIte, Nat.reduceEqDiff, reduceCtorEq, aField, fo89_3, Nat.reduceAdd, aLoad, ti41, getO, pack, Nat.reduceLeDiff, List.length_map, Int.toNat_natCast, Int.natCast_nonneg, gM hz, gM hz2, hk1, hk2, setIC, intC, List.length_set, List.set_set]
    refine hC93 _ ?_; clear hC93 C93
    simp only [bL]
    refine aops_chunk 2 fun C94 hC94 => ?_
    simp only [bL, ↓bO, bS, bA, bF, ↓reduceIte, Nat.reduceEqDiff, reduceCtorEq, List.length_map, Nat.reduceAdd, Nat.reduceLeDiff, Int.toNat_natCast, Int.natCast_nonneg, gM hz, gM hz2, hk1, hk2, setIC, intC, List.length_set, List.set_set]
    refine hC94 _ ?_; clear hC94 C94
    simp only [bL]
    simp only [↓bO, bS, bA, bF, ↓reduceIte, Nat.reduceEqDiff, reduceCtorEq, getO, aIndexA, es41, Int.natCast_nonneg, Int.ofNat_lt, Int.toNat_natCast, List.length_map, Int.le_refl, Int.toNat_zero, Int.toNat_one, Int.reduceLE, aStore, ti3, putO, splice, bL, Nat.reduceAdd, Nat.reduceLeDiff, gM hz, gM hz2, hk1, hk2, setIC, intC, List.length_set, List.set_set]
    refine hK91 _ ?_; try clear hK91 K91
    refine AWp_seqK fun K95 hK95 => ?_
    refine AAny_start [(0, 1, [.ptr 1 0])] 14 rfl mixed (⟨⟨_, _, rfl, by simp, rfl, trivial, trivial⟩, trivial⟩) rfl ?_
    dsimp only
    refine AAny_takeK 0 rfl (by kernel_rfl) (by kernel_rfl) (by kernel_rfl) (fun _ _ h => h) fun K96 hK96 => ?_
    simp only [aQuiet, aHeldLoad, CurL, CurOk, ↓bO, bS, bA, bF, ↓reduceIte, Nat.reduceEqDiff, reduceCtorEq, List.length_map, bL, Nat.reduceAdd, Nat.reduceLeDiff, Int.toNat_natCast, Int.natCast_nonneg, gM hz, gM hz2, hk1, hk2, setIC, intC, List.length_set, List.set_set]
    refine hK96 _ ?_; try clear hK96 K96
    refine AAny_takeK 1 rfl (by kernel_rfl) (by kernel_rfl) (by kernel_rfl) (fun _ _ h => h) fun K97 hK97 => ?_
    simp only [aQuiet, aHeldLoad, CurL, CurOk, ↓bO, bS, bA, bF, ↓reduceIte, Nat.reduceEqDiff, reduceCtorEq, List.length_map, bL, Nat.reduceAdd, Nat.reduceLeDiff, Int.toNat_natCast, Int.natCast_nonneg, gM hz, gM hz2, hk1, hk2, setIC, intC, List.length_set, List.set_set]
    refine hK97 _ ?_; try clear hK97 K97
    refine AAny_takeK 2 rfl (by kernel_rfl) (by kernel_rfl) (by kernel_rfl) (fun _ _ h => h) fun K98 hK98 => ?_
    simp only [aQuiet, aHeldLoad, CurL, CurOk, ↓bO, bS, bA, bF, ↓reduceIte, Nat.reduceEqDiff, reduceCtorEq, aField, fo89_1, bL, Nat.reduceAdd, List.length_map, Nat.reduceLeDiff, Int.toNat_natCast, Int.natCast_nonneg, gM hz, gM hz2, hk1, hk2, setIC, intC, List.length_set, List.set_set]
    refine hK98 _ ?_; try clear hK98 K98
    refine AAny_loadK 3 0 rfl rfl (by kernel_rfl) (by kernel_rfl) (by kernel_rfl) (fun _ _ h => h) fun K99 hK99 => ?_
    simp only [aQuiet, aHeldLoad, CurL, CurOk, ↓bO, bS, bA, bF, ↓reduceIte, Nat.reduceEqDiff, reduceCtorEq, aLoad, ti84, getO, pack, bL, Nat.reduceAdd, Nat.reduceLeDiff, List.length_map, Int.toNat_natCast, Int.natCast_nonneg, gM hz, gM hz2, hk1, hk2, setIC, intC, List.length_set, List.set_set]
    refine hK99 _ ?_; try clear hK99 K99
    refine AAny_takeK 4 rfl (by kernel_rfl) (by kernel_rfl) (by kernel_rfl) (fun _ _ h => h) fun K100 hK100 => ?_
    simp only [aQuiet, aHeldLoad, CurL, CurOk, ↓bO, bS, bA, bF, ↓reduceIte, Nat.reduceEqDiff, reduceCtorEq, List.length_map, bL, Nat.reduceAdd, Nat.reduceLeDiff, Int.toNat_natCast, Int.natCast_nonneg, gM hz, gM hz2, hk1, hk2, setIC, intC, List.length_set, List.set_set]
    refine hK100 _ ?_; try clear hK100 K100
    refine AAny_takeK 6 rfl (by kernel_rfl) (by kernel_rfl) (by kernel_rfl) (fun _ _ h => h) fun K101 hK101 => ?_
    simp only [aQuiet, aHeldLoad, CurL, CurOk, ↓bO, bS, bA, bF, ↓reduceIte, Nat.reduceEqDiff, reduceCtorEq, List.length_map, bL, Nat.reduceAdd, Nat.reduceLeDiff, Int.toNat_natCast, Int.natCast_nonneg, gM hz, gM hz2, hk1, hk2, setIC, intC, List.length_set, List.set_set]
    refine hK101 _ ?_; try clear hK101 K101
    refine AAny_takeK 7 rfl (by kernel_rfl) (by kernel_rfl) (by kernel_rfl) (fun _ _ h => h) fun K102 hK102 => ?_
    simp only [aQuiet, aHeldLoad, CurL, CurOk, ↓bO, bS, bA, bF, ↓reduceIte, Nat.reduceEqDiff, reduceCtorEq, List.length_map, bL, Nat.reduceAdd, Nat.reduceLeDiff, Int.toNat_natCast, Int.natCast_nonneg, gM hz, gM hz2, hk1, hk2, setIC, intC, List.length_set, List.set_set]
    refine hK102 _ ?_; try clear hK102 K102
    refine AAny_takeK 8 rfl (by kernel_rfl) (by kernel_rfl) (by kernel_rfl) (fun _ _ h => h) fun K103 hK103 => ?_
    simp only [aQuiet, aHeldLoad, CurL, CurOk, ↓bO, bS, bA, bF, ↓reduceIte, Nat.reduceEqDiff, reduceCtorEq, aField, fo89_1, bL, Nat.reduceAdd, List.length_map, Nat.reduceLeDiff, Int.toNat_natCast, Int.natCast_nonneg, gM hz, gM hz2, hk1, hk2, setIC, intC, List.length_set, List.set_set]
    refine hK103 _ ?_; try clear hK103 K103
    refine AAny_loadK 9 0 rfl rfl (by kernel_rfl) (by kernel_rfl) (by kernel_rfl) (fun _ _ h => h) fun K104 hK104 => ?_
    simp only [aQuiet, aHeldLoad, CurL, CurOk, ↓bO, bS, bA, bF, ↓reduceIte, Nat.reduceEqDiff, reduceCtorEq, aLoad, ti84, getO, pack, bL, Nat.reduceAdd, Nat.reduceLeDiff, List.length_map, Int.toNat_natCast, Int.natCast_nonneg, gM hz, gM hz2, hk1, hk2, setIC, intC, List.length_set, List.set_set]
    refine hK104 _ ?_; try clear hK104 K104
    refine AAny_takeK 10 rfl (by kernel_rfl) (by kernel_rfl) (by kernel_rfl) (fun _ _ h => h) fun K105 hK105 => ?_
    simp only [aQuiet, aHeldLoad, CurL, CurOk, ↓bO, bS, bA, bF, ↓reduceIte, Nat.reduceEqDiff, reduceCtorEq, List.length_map, bL, Nat.reduceAdd, Nat.reduceLeDiff, Int.toNat_natCast, Int.natCast_nonneg, gM hz, gM hz2, hk1, hk2, setIC, intC, List.length_set, List.set_set]
    refine hK105 _ ?_; try clear hK105 K105
    refine AAny_all1 (i := 5) (by kernel_rfl) ?_
    ·
     refine aAt_op rfl rfl fun K106 hK106 => ?_
     simp only [↓bO, bS, bA, bF, ↓reduceIte, Nat.reduceEqDiff, reduceCtorEq, aCallV, bL, List.length_map, Nat.reduceAdd, Nat.reduceLeDiff, Int.toNat_natCast, Int.natCast_nonneg, gM hz, gM hz2, hk1, hk2, setIC, intC, List.length_set, List.set_set]
     refine GCalls.at (hPx) (.cons (.v _) .nil) (dataInts _) (i := 1) (j := 2) (k := 3) rfl rfl rfl (by decide) (by decide) (by decide) (by first | omega | (simp only; omega)) (by first | omega | (simp only; omega)) (by first | omega | (simp only; omega)) ?_
     simp only [putO, Nat.reduceEqDiff, ↓reduceIte]
     try simp only [bS, bA]
     refine hK106 _ ⟨⟨⟨_, _, rfl, by simp, rfl, trivial, trivial⟩, trivial⟩, ?_⟩
     try clear hK106 K106
     refine AAny_all1 (i := 11) (by kernel_rfl) ?_
     ·
      refine aAt_op rfl rfl fun K107 hK107 => ?_
      simp only [↓bO, bS, bA, bF, ↓reduceIte, Nat.reduceEqDiff, reduceCtorEq, aCallV, bL, List.length_map, Nat.reduceAdd, Nat.reduceLeDiff, Int.toNat_natCast, Int.natCast_nonneg, gM hz, gM hz2, hk1, hk2, setIC, intC, List.length_set, List.set_set]
      refine GCalls.at (hPy) (.cons (.v _) .nil) (dataInts _) (i := 1) (j := 2) (k := 3) rfl rfl rfl (by decide) (by decide) (by decide) (by first | omega | (simp only; omega)) (by first | omega | (simp only; omega)) (by first | omega | (simp only; omega)) ?_
      simp only [putO, Nat.reduceEqDiff, ↓reduceIte]
      try simp only [bS, bA]
      refine hK107 _ ⟨⟨⟨_, _, rfl, by simp, rfl, trivial, trivial⟩, trivial⟩, ?_⟩
      try clear hK107 K107
      refine AAny_takeK 12 rfl (by kernel_rfl) (by kernel_rfl) (by kernel_rfl) (fun _ _ h => h) fun K108 hK108 => ?_
      simp only [aQuiet, aHeldLoad, CurL, CurOk, ↓bO, bS, bA, bF, ↓reduceIte, Nat.reduceEqDiff, reduceCtorEq, List.length_map, bL, Nat.reduceAdd, Nat.reduceLeDiff, Int.toNat_natCast, Int.natCast_nonneg, gM hz, gM hz2, hk1, hk2, setIC, intC, List.length_set, List.set_set]
      refine hK108 _ ?_; try clear hK108 K108
      refine AAny_takeK 13 rfl (by kernel_rfl) (by kernel_rfl) (by kernel_rfl) (fun _ _ h => h) fun K109 hK109 => ?_
      simp only [aQuiet, aHeldLoad, CurL, CurOk, ↓bO, bS, bA, bF, ↓reduceIte, Nat.reduceEqDiff, reduceCtorEq, List.length_map, bL, Nat.reduceAdd, Nat.reduceLeDiff, Int.toNat_natCast, Int.natCast_nonneg, gM hz, gM hz2, hk1, hk2, setIC, intC, List.length_set, List.set_set]
      refine hK109 _ ?_; try clear hK109 K109
      refine AAny_done (by kernel_rfl) ?_
      simp only [bF]
      refine hK95 _ ?_; try clear hK95 K95
      refine AWp_seqK fun K110 hK110 => ?_
      refine AWp_joinM [false, false, false, false, false, false, false, false, false, false, false, false, true, true, false, false, false, false, false, false, false, false, false, false, false, false, false, false, false, false, false, false, false, false, false, false, false, false, false, false, false, false, false, false, false, false, false, false, false, false, false, false, false, false, false, false, false, false, false, false, false, false, false, false, false, false, false, false, false, false, false, false, false, false, false, false, false, false, false, false, false, false, false, false, false, false, false, false, false, false, false, false, false, false, false, false, false, false, false, true, false, false, false, false, false, false, false, false, false, false, false, false, false, false, false, false, false, false, false] ([(99, .v (.bool (clash gx gy)))]) ([]) ?_ ?_
      ·
       refine AAny_start [(0, 1, [.ptr 1 0])] 20 rfl mixed (⟨⟨_, _, rfl, by simp, rfl, trivial, trivial⟩, trivial⟩) rfl ?_
       dsimp only
       refine AAny_takeK 0 rfl (by kernel_rfl) (by kernel_rfl) (by kernel_rfl) (fun _ _ h => h) fun K111 hK111 => ?_
       simp only [aQuiet, aHeldLoad, CurL, CurOk, ↓bO, bS, bA, bF, ↓reduceIte, Nat.reduceEqDiff, reduceCtorEq, List.length_map, bL, Nat.reduceAdd, Nat.reduceLeDiff, Int.toNat_natCast, Int.natCast_nonneg, gM hz, gM hz2, hk1, hk2, setIC, intC, List.length_set, List.set_set]
       refine hK111 _ ?_; try clear hK111 K111
       refine AAny_takeK 1 rfl (by kernel_rfl) (by kernel_rfl) (by kernel_rfl) (fun _ _ h => h) fun K112 hK112 => ?_
       simp only [aQuiet, aHeldLoad, CurL, CurOk, ↓bO, bS, bA, bF, ↓reduceIte, Nat.reduceEqDiff, reduceCtorEq, List.length_map, bL, Nat.reduceAdd, Nat.reduceLeDiff, Int.toNat_natCast, Int.natCast_nonneg, gM hz, gM hz2, hk1, hk2, setIC, intC, List.length_set, List.set_set]
       refine hK112 _ ?_; try clear hK112 K112
       refine AAny_takeK 2 rfl (by kernel_rfl) (by kernel_rfl) (by kernel_rfl) (fun _ _ h => h) fun K113 hK113 => ?_
       simp only [aQuiet, aHeldLoad, CurL, CurOk, ↓bO, bS, bA, bF, ↓reduceIte, Nat.reduceEqDiff, reduceCtorEq, aField, fo89_1, bL, Nat.reduceAdd, List.length_map, Nat.reduceLeDiff, Int.toNat_natCast, Int.natCast_nonneg, gM hz, gM hz2, hk1, hk2, setIC, intC, List.length_set, List.set_set]
       refine hK113 _ ?_; try clear hK113 K113
       refine AAny_loadK 3 0 rfl rfl (by kernel_rfl) (by kernel_rfl) (by kernel_rfl) (fun _ _ h => h) fun K114 hK114 => ?_
       simp only [aQuiet, aHeldLoad, CurL, CurOk, ↓bO, bS, bA, bF, ↓reduceIte, Nat.reduceEqDiff, reduceCtorEq, aLoad, ti84, getO, pack, bL, Nat.reduceAdd, Nat.reduceLeDiff, List.length_map, Int.toNat_natCast, Int.natCast_nonneg, gM hz, gM hz2, hk1, hk2, setIC, intC, List.length_set, List.set_set]
       refine hK114 _ ?_; try clear hK114 K114
       refine AAny_takeK 4 rfl (by kernel_rfl) (by kernel_rfl) (by kernel_rfl) (fun _ _ h => h) fun K115 hK115 => ?_
       simp only [aQuiet, aHeldLoad, CurL, CurOk, ↓bO, bS, bA, bF, ↓reduceIte, Nat.reduceEqDiff, reduceCtorEq, List.length_map, bL, Nat.reduceAdd, Nat.reduceLeDiff, Int.toNat_natCast, Int.natCast_nonneg, gM hz, gM hz2, hk1, hk2, setIC, intC, List.length_set, List.set_set]
       refine hK115 _ ?_; try clear hK115 K115
       refine AAny_takeK 6 rfl (by kernel_rfl) (by kernel_rfl) (by kernel_rfl) (fun _ _ h => h) fun K116 hK116 => ?_
       simp only [aQuiet, aHeldLoad, CurL, CurOk, ↓bO, bS, bA, bF, ↓reduceIte, Nat.reduceEqDiff, reduceCtorEq, List.length_map, bL, Nat.reduceAdd, Nat.reduceLeDiff, Int.toNat_natCast, Int.natCast_nonneg, gM hz, gM hz2, hk1, hk2, setIC, intC, List.length_set, List.set_set]
       refine hK116 _ ?_; try clear hK116 K116
       refine AAny_takeK 7 rfl (by kernel_rfl) (by kernel_rfl) (by kernel_rfl) (fun _ _ h => h) fun K117 hK117 => ?_
       simp only [aQuiet, aHeldLoad, CurL, CurOk, ↓bO, bS, bA, bF, ↓reduceIte, Nat.reduceEqDiff, reduceCtorEq, List.length_map, bL, Nat.reduceAdd, Nat.reduceLeDiff, Int.toNat_natCast, Int.natCast_nonneg, gM hz, gM hz2, hk1, hk2, setIC, intC, List.length_set, List.set_set]
       refine hK117 _ ?_; try clear hK117 K117
       refine AAny_takeK 8 rfl (by kernel_rfl) (by kernel_rfl) (by kernel_rfl) (fun _ _ h => h) fun K118 hK118 => ?_
       simp only [aQuiet, aHeldLoad, CurL, CurOk, ↓bO, bS, bA, bF, ↓reduceIte, Nat.reduceEqDiff, reduceCtorEq, aField, fo89_1, bL, Nat.reduceAdd, List.length_map, Nat.reduceLeDiff, Int.toNat_natCast, Int.natCast_nonneg, gM hz, gM hz2, hk1, hk2, setIC, intC, List.length_set, List.set_set]
       refine hK118 _ ?_; try clear hK118 K118
       refine AAny_loadK 9 0 rfl rfl (by kernel_rfl) (by kernel_rfl) (by kernel_rfl) (fun _ _ h => h) fun K119 hK119 => ?_
       simp only [aQuiet, aHeldLoad, CurL, CurOk, ↓bO, bS, bA, bF, ↓reduceIte, Nat.reduceEqDiff, reduceCtorEq, aLoad, ti84, getO, pack, bL, Nat.reduceAdd, Nat.reduceLeDiff, List.length_map, Int.toNat_natCast, Int.natCast_nonneg, gM hz, gM hz2, hk1, hk2, setIC, intC, List.length_set, List.set_set]
       refine hK119 _ ?_; try clear hK119 K119
       refine AAny_takeK 10 rfl (by kernel_rfl) (by kernel_rfl) (by kernel_rfl) (fun _ _ h => h) fun K120 hK120 => ?_
       simp only [aQuiet, aHeldLoad, CurL, CurOk, ↓bO, bS, bA, bF, ↓reduceIte, Nat.reduceEqDiff, reduceCtorEq, List.length_map, bL, Nat.reduceAdd, Nat.reduceLeDiff, Int.toNat_natCast, Int.natCast_nonneg, gM hz, gM hz2, hk1, hk2, setIC, intC, List.length_set, List.set_set]
       refine hK120 _ ?_; try clear hK120 K120
       refine AAny_all1 (i := 5) (by kernel_rfl) ?_
       ·
        refine aAt_op rfl rfl fun K121 hK121 => ?_
        simp only [↓bO, bS, bA, bF, ↓reduceIte, Nat.reduceEqDiff, reduceCtorEq, aCallV, bL, List.length_map, Nat.reduceAdd, Nat.reduceLeDiff, Int.toNat_natCast, Int.natCast_nonneg, gM hz, gM hz2, hk1, hk2, setIC, intC, List.length_set, List.set_set]
        refine GCalls.at (Kind_calls S.G j.2.2.2.1 gx hx0 hgx) (.cons (.v _) .nil) (.v _) (i := 1) (j := 2) (k := 3) rfl rfl rfl (by decide) (by decide) (by decide) (by first | omega | (simp only; omega)) (by first | omega | (simp only; omega)) (by first | omega | (simp only; omega)) ?_
        simp only [putO, Nat.reduceEqDiff, ↓reduceIte]
        try simp only [bS, bA]
        refine hK121 _ ⟨⟨⟨_, _, rfl, by simp, rfl, trivial, trivial⟩, trivial⟩, ?_⟩
        try clear hK121 K121
        refine AAny_all1 (i := 11) (by kernel_rfl) ?_
        ·
         refine aAt_op rfl rfl fun K122 hK122 => ?_
         simp only [↓bO, bS, bA, bF, ↓reduceIte, Nat.reduceEqDiff, reduceCtorEq, aCallV, bL, List.length_map, Nat.reduceAdd, Nat.reduceLeDiff, Int.toNat_natCast, Int.natCast_nonneg, gM hz, gM hz2, hk1, hk2, setIC, intC, List.length_set, List.set_set]
         refine GCalls.at (Kind_calls S.G j.2.2.2.2 gy hy0 hgy) (.cons (.v _) .nil) (.v _) (i := 1) (j := 2) (k := 3) rfl rfl rfl (by decide) (by decide) (by decide) (by first | omega | (simp only; omega)) (by first | omega | (simp only; omega)) (by first | omega | (simp only; omega)) ?_
         simp only [putO, Nat.reduceEqDiff, ↓reduceIte]
         try simp only [bS, bA]
         refine hK122 _ ⟨⟨⟨_, _, rfl, by simp, rfl, trivial, trivial⟩, trivial⟩, ?_⟩
         try clear hK122 K122
         refine AAny_all1 (i := 12) (by kernel_rfl) ?_
         ·
          refine aAt_op rfl rfl fun K123 hK123 => ?_
          simp only [↓bO, bS, bA, bF, ↓reduceIte, Nat.reduceEqDiff, reduceCtorEq, aBin, List.length_map, bL, Nat.reduceAdd, Nat.reduceLeDiff, Int.toNat_natCast, Int.natCast_nonneg, gM hz, gM hz2, hk1, hk2, setIC, intC, List.length_set, List.set_set]
          refine hK123 _ ⟨⟨⟨_, _, rfl, by simp, rfl, trivial, trivial⟩, trivial⟩, ?_⟩
          try clear hK123 K123
          refine AAny_takeK 13 rfl (by kernel_rfl) (by kernel_rfl) (by kernel_rfl) (fun _ _ h => h) fun K124 hK124 => ?_
          simp only [aQuiet, aHeldLoad, CurL, CurOk, ↓bO, bS, bA, bF, ↓reduceIte, Nat.reduceEqDiff, reduceCtorEq, List.length_map, bL, Nat.reduceAdd, Nat.reduceLeDiff, Int.toNat_natCast, Int.natCast_nonneg, gM hz, gM hz2, hk1, hk2, setIC, intC, List.length_set, List.set_set]
          refine hK124 _ ?_; try clear hK124 K124
          refine AAny_case 93 rfl (fun hc93 => ?_) (fun hc93 => ?_)
          ·
           simp only [List.set_cons_zero, List.set_cons_succ]
           have hcl : clash gx gy = true := clash_eq gx gy hc93
           refine AAny_all2 (i := 14) (j := 16) (by kernel_rfl) ?_ ?_
           ·
            refine aAt_if rfl fun K125 hK125 => ?_
            simp only [↓bO, bS, bA, bF, ↓reduceIte, Nat.reduceEqDiff, reduceCtorEq, bL, undef, List.length_map, Nat.reduceAdd, Nat.reduceLeDiff, Int.toNat_natCast, Int.natCast_nonneg, gM hz, gM hz2, hk1, hk2, setIC, intC, List.length_set, List.set_set]
            refine hK125 _ ⟨⟨⟨_, _, rfl, by simp, rfl, trivial, trivial⟩, trivial⟩, ?_⟩
            try clear hK125 K125
            refine AAny_all2 (i := 15) (j := 16) (by kernel_rfl) ?_ ?_
            ·
             refine aAt_if rfl fun K126 hK126 => ?_
             simp only [↓bO, bS, bA, bF, ↓reduceIte, Nat.reduceEqDiff, reduceCtorEq, bL, undef, getO, aLenX, aLen, ln41, List.length_map, Nat.reduceAdd, Nat.reduceLeDiff, Int.toNat_natCast, Int.natCast_nonneg, gM hz, gM hz2, hk1, hk2, setIC, intC, List.length_set, List.set_set]
             refine hK126 _ ⟨⟨⟨_, _, rfl, by simp, rfl, trivial, trivial⟩, trivial⟩, ?_⟩
             try clear hK126 K126
             refine AAny_all1 (i := 16) (by kernel_rfl) ?_
             ·
              refine aAt_if rfl fun K127 hK127 => ?_
              simp only [↓bO, bS, bA, bF, ↓reduceIte, Nat.reduceEqDiff, reduceCtorEq, bL, undef, List.length_map, Nat.reduceAdd, Nat.reduceLeDiff, Int.toNat_natCast, Int.natCast_nonneg, gM hz, gM hz2, hk1, hk2, setIC, intC, List.length_set, List.set_set]
              refine hK127 _ ⟨⟨⟨_, _, rfl, by simp, rfl, trivial, trivial⟩, trivial⟩, ?_⟩
              try clear hK127 K127
              refine AAny_all1 (i := 17) (by kernel_rfl) ?_
              ·
               refine aAt_if rfl fun K128 hK128 => ?_
               simp only [↓bO, bS, bA, bF, ↓reduceIte, Nat.reduceEqDiff, reduceCtorEq, bL, undef, getO, aLenX, aLen, ln41, List.length_map, Nat.reduceAdd, Nat.reduceLeDiff, Int.toNat_natCast, Int.natCast_nonneg, gM hz, gM hz2, hk1, hk2, setIC, intC, List.length_set, List.set_set]
               refine hK128 _ ⟨⟨⟨_, _, rfl, by simp, rfl, trivial, trivial⟩, trivial⟩, ?_⟩
               try clear hK128 K128
               refine AAny_all1 (i := 18) (by kernel_rfl) ?_
               ·
                refine aAt_if rfl fun K129 hK129 => ?_
                simp only [↓bO, bS, bA, bF, ↓reduceIte, Nat.reduceEqDiff, reduceCtorEq, bL, undef, aBin, List.length_map, Nat.reduceAdd, Nat.reduceLeDiff, Int.toNat_natCast, Int.natCast_nonneg, gM hz, gM hz2, hk1, hk2, setIC, intC, List.length_set, List.set_set]
                refine hK129 _ ⟨⟨⟨_, _, rfl, by simp, rfl, trivial, trivial⟩, trivial⟩, ?_⟩
                try clear hK129 K129
                refine AAny_all1 (i := 19) (by kernel_rfl) ?_
                ·
                 refine aAt_op rfl rfl fun K130 hK130 => ?_
                 simp only [↓bO, bS, bA, bF, ↓reduceIte, Nat.reduceEqDiff, reduceCtorEq, aBool, List.length_map, bL, Nat.reduceAdd, Nat.reduceLeDiff, Int.toNat_natCast, Int.natCast_nonneg, gM hz, gM hz2, hk1, hk2, setIC, intC, List.length_set, List.set_set]
                 refine hK130 _ ⟨⟨⟨_, _, rfl, by simp, rfl, trivial, trivial⟩, trivial⟩, ?_⟩
                 try clear hK130 K130
                 refine AAny_done (by kernel_rfl) ?_
                 simp only [bF]
                 try simp only [maskL, setsL, putsO, putO, bA, Nat.reduceEqDiff, ↓reduceIte]
                 first | rw [hcl] | rw [clash]
                 exact Weak.mk (by first | (simp only [LeL, Le.refl, Le.any, and_self]; done) | (simp only [clash, hc93, bne_cast, Bool.false_or, LeL, Le.refl, Le.any, and_self]; done)) (fun _ _ h => h) rfl rfl
            ·
             refine aAt_if rfl fun K131 hK131 => ?_
             simp only [↓bO, bS, bA, bF, ↓reduceIte, Nat.reduceEqDiff, reduceCtorEq, bL, undef, List.length_map, Nat.reduceAdd, Nat.reduceLeDiff, Int.toNat_natCast, Int.natCast_nonneg, gM hz, gM hz2, hk1, hk2, setIC, intC, List.length_set, List.set_set]
             refine hK131 _ ⟨⟨⟨_, _, rfl, by simp, rfl, trivial, trivial⟩, trivial⟩, ?_⟩
             try clear hK131 K131
             refine AAny_all2 (i := 15) (j := 17) (by kernel_rfl) ?_ ?_
             ·
              refine aAt_if rfl fun K132 hK132 => ?_
              simp only [↓bO, bS, bA, bF, ↓reduceIte, Nat.reduceEqDiff, reduceCtorEq, bL, undef, getO, aLenX, aLen, ln41, List.length_map, Nat.reduceAdd, Nat.reduceLeDiff, Int.toNat_natCast, Int.natCast_nonneg, gM hz, gM hz2, hk1, hk2, setIC, intC, List.length_set, List.set_set]
              refine hK132 _ ⟨⟨⟨_, _, rfl, by simp, rfl, trivial, trivial⟩, trivial⟩, ?_⟩
              try clear hK132 K132
              refine AAny_all1 (i := 17) (by kernel_rfl) ?_
              ·
               refine aAt_if rfl fun K133 hK133 => ?_
               simp only [↓bO, bS, bA, bF, ↓reduceIte, Nat.reduceEqDiff, reduceCtorEq, bL, undef, getO, aLenX, aLen, ln41, List.length_map, Nat.reduceAdd, Nat.reduceLeDiff, Int.toNat_natCast, Int.natCast_nonneg, gM hz, gM hz2, hk1, hk2, setIC, intC, List.length_set, List.set_set]
               refine hK133 _ ⟨⟨⟨_, _, rfl, by simp, rfl, trivial, trivial⟩, trivial⟩, ?_⟩
               try clear hK133 K133
               refine AAny_all1 (i := 18) (by kernel_rfl) ?_
               ·
                refine aAt_if rfl fun K134 hK134 => ?_
                simp only [↓bO, bS, bA, bF, ↓reduceIte, Nat.reduceEqDiff, reduceCtorEq, bL, undef, aBin, List.length_map, Nat.reduceAdd, Nat.reduceLeDiff, Int.toNat_natCast, Int.natCast_nonneg, gM hz, gM hz2, hk1, hk2, setIC, intC, List.length_set, List.set_set]
                refine hK134 _ ⟨⟨⟨_, _, rfl, by simp, rfl, trivial, trivial⟩, trivial⟩, ?_⟩
                try clear hK134 K134
                refine AAny_all1 (i := 19) (by kernel_rfl) ?_
                ·
                 refine aAt_op rfl rfl fun K135 hK135 => ?_
                 simp only [↓bO, bS, bA, bF, ↓reduceIte, Nat.reduceEqDiff, reduceCtorEq, aBool, List.length_map, bL, Nat.reduceAdd, Nat.reduceLeDiff, Int.toNat_natCast, Int.natCast_nonneg, gM hz, gM hz2, hk1, hk2, setIC, intC, List.length_set, List.set_set]
                 refine hK135 _ ⟨⟨⟨_, _, rfl, by simp, rfl, trivial, trivial⟩, trivial⟩, ?_⟩
                 try clear hK135 K135
                 refine AAny_done (by kernel_rfl) ?_
                 simp only [bF]
                 try simp only [maskL, setsL, putsO, putO, bA, Nat.reduceEqDiff, ↓reduceIte]
                 first | rw [hcl] | rw [clash]
                 exact Weak.mk (by first | (simp only [LeL, Le.refl, Le.any, and_self]; done) | (simp only [clash, hc93, bne_cast, Bool.false_or, LeL, Le.refl, Le.any, and_self]; done)) (fun _ _ h => h) rfl rfl
             ·
              refine aAt_if rfl fun K136 hK136 => ?_
              simp only [↓bO, bS, bA, bF, ↓reduceIte, Nat.reduceEqDiff, reduceCtorEq, bL, undef, getO, aLenX, aLen, ln41, List.length_map, Nat.reduceAdd, Nat.reduceLeDiff, Int.toNat_natCast, Int.natCast_nonneg, gM hz, gM hz2, hk1, hk2, setIC, intC, List.length_set, List.set_set]
              refine hK136 _ ⟨⟨⟨_, _, rfl, by simp, rfl, trivial, trivial⟩, trivial⟩, ?_⟩
              try clear hK136 K136
              refine AAny_all1 (i := 15) (by kernel_rfl) ?_
              ·
               refine aAt_if rfl fun K137 hK137 => ?_
               simp only [↓bO, bS, bA, bF, ↓reduceIte, Nat.reduceEqDiff, reduceCtorEq, bL, undef, getO, aLenX, aLen, ln41, List.length_map, Nat.reduceAdd, Nat.reduceLeDiff, Int.toNat_natCast, Int.natCast_nonneg, gM hz, gM hz2, hk1, hk2, setIC, intC, List.length_set, List.set_set]
               refine hK137 _ ⟨⟨⟨_, _, rfl, by simp, rfl, trivial, trivial⟩, trivial⟩, ?_⟩
               try clear hK137 K137
               refine AAny_all1 (i := 18) (by kernel_rfl) ?_
               ·
                refine aAt_if rfl fun K138 hK138 => ?_
                simp only [↓bO, bS, bA, bF, ↓reduceIte, Nat.reduceEqDiff, reduceCtorEq, bL, undef, aBin, List.length_map, Nat.reduceAdd, Nat.reduceLeDiff, Int.toNat_natCast, Int.natCast_nonneg, gM hz, gM hz2, hk1, hk2, setIC, intC, List.length_set, List.set_set]
                refine hK138 _ ⟨⟨⟨_, _, rfl, by simp, rfl, trivial, trivial⟩, trivial⟩, ?_⟩
                try clear hK138 K138
                refine AAny_all1 (i := 19) (by kernel_rfl) ?_
                ·
                 refine aAt_op rfl rfl fun K139 hK139 => ?_
                 simp only [↓bO, bS, bA, bF, ↓reduceIte, Nat.reduceEqDiff, reduceCtorEq, aBool, List.length_map, bL, Nat.reduceAdd, Nat.reduceLeDiff, Int.toNat_natCast, Int.natCast_nonneg, gM hz, gM hz2, hk1, hk2, setIC, intC, List.length_set, List.set_set]
                 refine hK139 _ ⟨⟨⟨_, _, rfl, by simp, rfl, trivial, trivial⟩, trivial⟩, ?_⟩
                 try clear hK139 K139
                 refine AAny_done (by kernel_rfl) ?_
                 simp only [bF]
                 try simp only [maskL, setsL, putsO, putO, bA, Nat.reduceEqDiff, ↓reduceIte]
                 first | rw [hcl] | rw [clash]
                 exact Weak.mk (by first | (simp only [LeL, Le.refl, Le.any, and_self]; done) | (simp only [clash, hc93, bne_cast, Bool.false_or, LeL, Le.refl, Le.any, and_self]; done)) (fun _ _ h => h) rfl rfl
           ·
            refine aAt_if rfl fun K140 hK140 => ?_
            simp only [↓bO, bS, bA, bF, ↓reduceIte, Nat.reduceEqDiff, reduceCtorEq, bL, undef, List.length_map, Nat.reduceAdd, Nat.reduceLeDiff, Int.toNat_natCast, Int.natCast_nonneg, gM hz, gM hz2, hk1, hk2, setIC, intC, List.length_set, List.set_set]
            refine hK140 _ ⟨⟨⟨_, _, rfl, by simp, rfl, trivial, trivial⟩, trivial⟩, ?_⟩
            try clear hK140 K140
            refine AAny_all2 (i := 14) (j := 17) (by kernel_rfl) ?_ ?_
            ·
             refine aAt_if rfl fun K141 hK141 => ?_
             simp only [↓bO, bS, bA, bF, ↓reduceIte, Nat.reduceEqDiff, reduceCtorEq, bL, undef, List.length_map, Nat.reduceAdd, Nat.reduceLeDiff, Int.toNat_natCast, Int.natCast_nonneg, gM hz, gM hz2, hk1, hk2, setIC, intC, List.length_set, List.set_set]
             refine hK141 _ ⟨⟨⟨_, _, rfl, by simp, rfl, trivial, trivial⟩, trivial⟩, ?_⟩
             try clear hK141 K141
             refine AAny_all2 (i := 15) (j := 17) (by kernel_rfl) ?_ ?_
             ·
              refine aAt_if rfl fun K142 hK142 => ?_
              simp only [↓bO, bS, bA, bF, ↓reduceIte, Nat.reduceEqDiff, reduceCtorEq, bL, undef, getO, aLenX, aLen, ln41, List.length_map, Nat.reduceAdd, Nat.reduceLeDiff, Int.toNat_natCast, Int.natCast_nonneg, gM hz, gM hz2, hk1, hk2, setIC, intC, List.length_set, List.set_set]
              refine hK142 _ ⟨⟨⟨_, _, rfl, by simp, rfl, trivial, trivial⟩, trivial⟩, ?_⟩
              try clear hK142 K142
              refine AAny_all1 (i := 17) (by kernel_rfl) ?_
              ·
               refine aAt_if rfl fun K143 hK143 => ?_
               simp only [↓bO, bS, bA, bF, ↓reduceIte, Nat.reduceEqDiff, reduceCtorEq, bL, undef, getO, aLenX, aLen, ln41, List.length_map, Nat.reduceAdd, Nat.reduceLeDiff, Int.toNat_natCast, Int.natCast_nonneg, gM hz, gM hz2, hk1, hk2, setIC, intC, List.length_set, List.set_set]
               refine hK143 _ ⟨⟨⟨_, _, rfl, by simp, rfl, trivial, trivial⟩, trivial⟩, ?_⟩
               try clear hK143 K143
               refine AAny_all1 (i := 18) (by kernel_rfl) ?_
               ·
                refine aAt_if rfl fun K144 hK144 => ?_
                simp only [↓bO, bS, bA, bF, ↓reduceIte, Nat.reduceEqDiff, reduceCtorEq, bL, undef, aBin, List.length_map, Nat.reduceAdd, Nat.reduceLeDiff, Int.toNat_natCast, Int.natCast_nonneg, gM hz, gM hz2, hk1, hk2, setIC, intC, List.length_set, List.set_set]
                refine hK144 _ ⟨⟨⟨_, _, rfl, by simp, rfl, trivial, trivial⟩, trivial⟩, ?_⟩
                try clear hK144 K144
                refine AAny_all1 (i := 19) (by kernel_rfl) ?_
                ·
                 refine aAt_op rfl rfl fun K145 hK145 => ?_
                 simp only [↓bO, bS, bA, bF, ↓reduceIte, Nat.reduceEqDiff, reduceCtorEq, aBool, List.length_map, bL, Nat.reduceAdd, Nat.reduceLeDiff, Int.toNat_natCast, Int.natCast_nonneg, gM hz, gM hz2, hk1, hk2, setIC, intC, List.length_set, List.set_set]
                 refine hK145 _ ⟨⟨⟨_, _, rfl, by simp, rfl, trivial, trivial⟩, trivial⟩, ?_⟩
                 try clear hK145 K145
                 refine AAny_done (by kernel_rfl) ?_
                 simp only [bF]
                 try simp only [maskL, setsL, putsO, putO, bA, Nat.reduceEqDiff, ↓reduceIte]
                 first | rw [hcl] | rw [clash]
                 exact Weak.mk (by first | (simp only [LeL, Le.refl, Le.any, and_self]; done) | (simp only [clash, hc93, bne_cast, Bool.false_or, LeL, Le.refl, Le.any, and_self]; done)) (fun _ _ h => h) rfl rfl
             ·
              refine aAt_if rfl fun K146 hK146 => ?_
              simp only [↓bO, bS, bA, bF, ↓reduceIte, Nat.reduceEqDiff, reduceCtorEq, bL, undef, getO, aLenX, aLen, ln41, List.length_map, Nat.reduceAdd, Nat.reduceLeDiff, Int.toNat_natCast, Int.natCast_nonneg, gM hz, gM hz2, hk1, hk2, setIC, intC, List.length_set, List.set_set]
              refine hK146 _ ⟨⟨⟨_, _, rfl, by simp, rfl, trivial, trivial⟩, trivial⟩, ?_⟩
              try clear hK146 K146
              refine AAny_all1 (i := 15) (by kernel_rfl) ?_
              ·
               refine aAt_if rfl fun K147 hK147 => ?_
               simp only [↓bO, bS, bA, bF, ↓reduceIte, Nat.reduceEqDiff, reduceCtorEq, bL, undef, getO, aLenX, aLen, ln41, List.length_map, Nat.reduceAdd, Nat.reduceLeDiff, Int.toNat_natCast, Int.natCast_nonneg, gM hz, gM hz2, hk1, hk2, setIC, intC, List.length_set, List.set_set]
               refine hK147 _ ⟨⟨⟨_, _, rfl, by simp, rfl, trivial, trivial⟩, trivial⟩, ?_⟩
               try clear hK147 K147
               refine AAny_all1 (i := 18) (by kernel_rfl) ?_
               ·
                refine aAt_if rfl fun K148 hK148 => ?_
                simp only [↓bO, bS, bA, bF, ↓reduceIte, Nat.reduceEqDiff, reduceCtorEq, bL, undef, aBin, List.length_map, Nat.reduceAdd, Nat.reduceLeDiff, Int.toNat_natCast, Int.natCast_nonneg, gM hz, gM hz2, hk1, hk2, setIC, intC, List.length_set, List.set_set]
                refine hK148 _ ⟨⟨⟨_, _, rfl, by simp, rfl, trivial, trivial⟩, trivial⟩, ?_⟩
                try clear hK148 K148
                refine AAny_all1 (i := 19) (by kernel_rfl) ?_
                ·
                 refine aAt_op rfl rfl fun K149 hK149 => ?_
                 simp only [↓bO, bS, bA, bF, ↓reduceIte, Nat.reduceEqDiff, reduceCtorEq, aBool, List.length_map, bL, Nat.reduceAdd, Nat.reduceLeDiff, Int.toNat_natCast, Int.natCast_nonneg, gM hz, gM hz2, hk1, hk2, setIC, intC, List.length_set, List.set_set]
                 refine hK149 _ ⟨⟨⟨_, _, rfl, by simp, rfl, trivial, trivial⟩, trivial⟩, ?_⟩
                 try clear hK149 K149
                 refine AAny_done (by kernel_rfl) ?_
                 simp only [bF]
                 try simp only [maskL, setsL, putsO, putO, bA, Nat.reduceEqDiff, ↓reduceIte]
                 first | rw [hcl] | rw [clash]
                 exact Weak.mk (by first | (simp only [LeL, Le.refl, Le.any, and_self]; done) | (simp only [clash, hc93, bne_cast, Bool.false_or, LeL, Le.refl, Le.any, and_self]; done)) (fun _ _ h => h) rfl rfl
            ·
             refine aAt_if rfl fun K150 hK150 => ?_
             simp only [↓bO, bS, bA, bF, ↓reduceIte, Nat.reduceEqDiff, reduceCtorEq, bL, undef, getO, aLenX, aLen, ln41, List.length_map, Nat.reduceAdd, Nat.reduceLeDiff, Int.toNat_natCast, Int.natCast_nonneg, gM hz, gM hz2, hk1, hk2, setIC, intC, List.length_set, List.set_set]
             refine hK150 _ ⟨⟨⟨_, _, rfl, by simp, rfl, trivial, trivial⟩, trivial⟩, ?_⟩
             try clear hK150 K150
             refine AAny_all1 (i := 14) (by kernel_rfl) ?_
             ·
              refine aAt_if rfl fun K151 hK151 => ?_
              simp only [↓bO, bS, bA, bF, ↓reduceIte, Nat.reduceEqDiff, reduceCtorEq, bL, undef, List.length_map, Nat.reduceAdd, Nat.reduceLeDiff, Int.toNat_natCast, Int.natCast_nonneg, gM hz, gM hz2, hk1, hk2, setIC, intC, List.length_set, List.set_set]
              refine hK151 _ ⟨⟨⟨_, _, rfl, by simp, rfl, trivial, trivial⟩, trivial⟩, ?_⟩
              try clear hK151 K151
              refine AAny_all1 (i := 15) (by kernel_rfl) ?_
              ·
               refine aAt_if rfl fun K152 hK152 => ?_
               simp only [↓bO, bS, bA, bF, ↓reduceIte, Nat.reduceEqDiff, reduceCtorEq, bL, undef, getO, aLenX, aLen, ln41, List.length_map, Nat.reduceAdd, Nat.reduceLeDiff, Int.toNat_natCast, Int.natCast_nonneg, gM hz, gM hz2, hk1, hk2, setIC, intC, List.length_set, List.set_set]
               refine hK152 _ ⟨⟨⟨_, _, rfl, by simp, rfl, trivial, trivial⟩, trivial⟩, ?_⟩
               try clear hK152 K152
               refine AAny_all1 (i := 18) (by kernel_rfl) ?_
               ·
                refine aAt_if rfl fun K153 hK153 => ?_
                simp only [↓bO, bS, bA, bF, ↓reduceIte, Nat.reduceEqDiff, reduceCtorEq, bL, undef, aBin, List.length_map, Nat.reduceAdd, Nat.reduceLeDiff, Int.toNat_natCast, Int.natCast_nonneg, gM hz, gM hz2, hk1, hk2, setIC, intC, List.length_set, List.set_set]
                refine hK153 _ ⟨⟨⟨_, _, rfl, by simp, rfl, trivial, trivial⟩, trivial⟩, ?_⟩
                try clear hK153 K153
                refine AAny_all1 (i := 19) (by kernel_rfl) ?_
                ·
                 refine aAt_op rfl rfl fun K154 hK154 => ?_
                 simp only [↓bO, bS, bA, bF, ↓reduceIte, Nat.reduceEqDiff, reduceCtorEq, aBool, List.length_map, bL, Nat.reduceAdd, Nat.reduceLeDiff, Int.toNat_natCast, Int.natCast_nonneg, gM hz, gM hz2, hk1, hk2, setIC, intC, List.length_set, List.set_set]
                 refine hK154 _ ⟨⟨⟨_, _, rfl, by simp, rfl, trivial, trivial⟩, trivial⟩, ?_⟩
                 try clear hK154 K154
                 refine AAny_done (by kernel_rfl) ?_
                 simp only [bF]
                 try simp only [maskL, setsL, putsO, putO, bA, Nat.reduceEqDiff, ↓reduceIte]
                 first | rw [hcl] | rw [clash]
                 exact Weak.mk (by first | (simp only [LeL, Le.refl, Le.any, and_self]; done) | (simp only [clash, hc93, bne_cast, Bool.false_or, LeL, Le.refl, Le.any, and_self]; done)) (fun _ _ h => h) rfl rfl
          ·
           simp only [List.set_cons_zero, List.set_cons_succ]
           refine AAny_all2 (i := 14) (j := 16) (by kernel_rfl) ?_ ?_
           ·
            refine aAt_if rfl fun K155 hK155 => ?_
            simp only [↓bO, bS, bA, bF, ↓reduceIte, Nat.reduceEqDiff, reduceCtorEq, bL, undef, List.length_map, Nat.reduceAdd, Nat.reduceLeDiff, Int.toNat_natCast, Int.natCast_nonneg, gM hz, gM hz2, hk1, hk2, setIC, intC, List.length_set, List.set_set]
            refine hK155 _ ⟨⟨⟨_, _, rfl, by simp, rfl, trivial, trivial⟩, trivial⟩, ?_⟩
            try clear hK155 K155
            refine AAny_all2 (i := 15) (j := 16) (by kernel_rfl) ?_ ?_
            ·
             refine aAt_if rfl fun K156 hK156 => ?_
             simp only [↓bO, bS, bA, bF, ↓reduceIte, Nat.reduceEqDiff, reduceCtorEq, bL, undef, getO, aLenX, aLen, ln41, List.length_map, Nat.reduceAdd, Nat.reduceLeDiff, Int.toNat_natCast, Int.natCast_nonneg, gM hz, gM hz2, hk1, hk2, setIC, intC, List.length_set, List.set_set]
             refine hK156 _ ⟨⟨⟨_, _, rfl, by simp, rfl, trivial, trivial⟩, trivial⟩, ?_⟩
             try clear hK156 K156
             refine AAny_all1 (i := 16) (by kernel_rfl) ?_
             ·
              refine aAt_if rfl fun K157 hK157 => ?_
              simp only [↓bO, bS, bA, bF, ↓reduceIte, Nat.reduceEqDiff, reduceCtorEq, bL, undef, List.length_map, Nat.reduceAdd, Nat.reduceLeDiff, Int.toNat_natCast, Int.natCast_nonneg, gM hz, gM hz2, hk1, hk2, setIC, intC, List.length_set, List.set_set]
              refine hK157 _ ⟨⟨⟨_, _, rfl, by simp, rfl, trivial, trivial⟩, trivial⟩, ?_⟩
              try clear hK157 K157
              refine AAny_all1 (i := 17) (by kernel_rfl) ?_
              ·
               refine aAt_if rfl fun K158 hK158 => ?_
               simp only [↓bO, bS, bA, bF, ↓reduceIte, Nat.reduceEqDiff, reduceCtorEq, bL, undef, getO, aLenX, aLen, ln41, List.length_map, Nat.reduceAdd, Nat.reduceLeDiff, Int.toNat_natCast, Int.natCast_nonneg, gM hz, gM hz2, hk1, hk2, setIC, intC, List.length_set, List.set_set]
               refine hK158 _ ⟨⟨⟨_, _, rfl, by simp, rfl, trivial, trivial⟩, trivial⟩, ?_⟩
               try clear hK158 K158
               refine AAny_all1 (i := 18) (by kernel_rfl) ?_
               ·
                refine aAt_if rfl fun K159 hK159 => ?_
                simp only [↓bO, bS, bA, bF, ↓reduceIte, Nat.reduceEqDiff, reduceCtorEq, bL, undef, aBin, List.length_map, Nat.reduceAdd, Nat.reduceLeDiff, Int.toNat_natCast, Int.natCast_nonneg, gM hz, gM hz2, hk1, hk2, setIC, intC, List.length_set, List.set_set]
                refine hK159 _ ⟨⟨⟨_, _, rfl, by simp, rfl, trivial, trivial⟩, trivial⟩, ?_⟩
                try clear hK159 K159
                refine AAny_all1 (i := 19) (by kernel_rfl) ?_
                ·
                 refine aAt_op rfl rfl fun K160 hK160 => ?_
                 simp only [↓bO, bS, bA, bF, ↓reduceIte, Nat.reduceEqDiff, reduceCtorEq, aBool, List.length_map, bL, Nat.reduceAdd, Nat.reduceLeDiff, Int.toNat_natCast, Int.natCast_nonneg, gM hz, gM hz2, hk1, hk2, setIC, intC, List.length_set, List.set_set]
                 refine hK160 _ ⟨⟨⟨_, _, rfl, by simp, rfl, trivial, trivial⟩, trivial⟩, ?_⟩
                 try clear hK160 K160
                 refine AAny_done (by kernel_rfl) ?_
                 simp only [bF]
                 try simp only [maskL, setsL, putsO, putO, bA, Nat.reduceEqDiff, ↓reduceIte]
                 first | rw [hcl] | rw [clash]
                 exact Weak.mk (by first | (simp only [LeL, Le.refl, Le.any, and_self]; done) | (simp only [clash, hc93, bne_cast, Bool.false_or, LeL, Le.refl, Le.any, and_self]; done)) (fun _ _ h => h) rfl rfl
            ·
             refine aAt_if rfl fun K161 hK161 => ?_
             simp only [↓bO, bS, bA, bF, ↓reduceIte, Nat.reduceEqDiff, reduceCtorEq, bL, undef, List.length_map, Nat.reduceAdd, Nat.reduceLeDiff, Int.toNat_natCast, Int.natCast_nonneg, gM hz, gM hz2, hk1, hk2, setIC, intC, List.length_set, List.set_set]
             refine hK161 _ ⟨⟨⟨_, _, rfl, by simp, rfl, trivial, trivial⟩, trivial⟩, ?_⟩
             try clear hK161 K161
             refine AAny_all2 (i := 15) (j := 17) (by kernel_rfl) ?_ ?_
             ·
              refine aAt_if rfl fun K162 hK162 => ?_
              simp only [↓bO, bS, bA, bF, ↓reduceIte, Nat.reduceEqDiff, reduceCtorEq, bL, undef, getO, aLenX, aLen, ln41, List.length_map, Nat.reduceAdd, Nat.reduceLeDiff, Int.toNat_natCast, Int.natCast_nonneg, gM hz, gM hz2, hk1, hk2, setIC, intC, List.length_set, List.set_set]
              refine hK162 _ ⟨⟨⟨_, _, rfl, by simp, rfl, trivial, trivial⟩, trivial⟩, ?_⟩
              try clear hK162 K162
              refine AAny_all1 (i := 17) (by kernel_rfl) ?_
              ·
               refine aAt_if rfl fun K163 hK163 => ?_
               simp only [↓bO, bS, bA, bF, ↓reduceIte, Nat.reduceEqDiff, reduceCtorEq, bL, undef, getO, aLenX, aLen, ln41, List.length_map, Nat.reduceAdd, Nat.reduceLeDiff, Int.toNat_natCast, Int.natCast_nonneg, gM hz, gM hz2, hk1, hk2, setIC, intC, List.length_set, List.set_set]
               refine hK163 _ ⟨⟨⟨_, _, rfl, by simp, rfl, trivial, trivial⟩, trivial⟩, ?_⟩
               try clear hK163 K163
               refine AAny_all1 (i := 18) (by kernel_rfl) ?_
               ·
                refine aAt_if rfl fun K164 hK164 => ?_
                simp only [↓bO, bS, bA, bF, ↓reduceIte, Nat.reduceEqDiff, reduceCtorEq, bL, undef, aBin, List.length_map, Nat.reduceAdd, Nat.reduceLeDiff, Int.toNat_natCast, Int.natCast_nonneg, gM hz, gM hz2, hk1, hk2, setIC, intC, List.length_set, List.set_set]
                refine hK164 _ ⟨⟨⟨_, _, rfl, by simp, rfl, trivial, trivial⟩, trivial⟩, ?_⟩
                try clear hK164 K164
                refine AAny_all1 (i := 19) (by kernel_rfl) ?_
                ·
                 refine aAt_op rfl rfl fun K165 hK165 => ?_
                 simp only [↓bO, bS, bA, bF, ↓reduceIte, Nat.reduceEqDiff, reduceCtorEq, aBool, List.length_map, bL, Nat.reduceAdd, Nat.reduceLeDiff, Int.toNat_natCast, Int.natCast_nonneg, gM hz, gM hz2, hk1, hk2, setIC, intC, List.length_set, List.set_set]
                 refine hK165 _ ⟨⟨⟨_, _, rfl, by simp, rfl, trivial, trivial⟩, trivial⟩, ?_⟩
                 try clear hK165 K165
                 refine AAny_done (by kernel_rfl) ?_
                 simp only [bF]
                 try simp only [maskL, setsL, putsO, putO, bA, Nat.reduceEqDiff, ↓reduceIte]
                 first | rw [hcl] | rw [clash]
                 exact Weak.mk (by first | (simp only [LeL, Le.refl, Le.any, and_self]; done) | (simp only [clash, hc93, bne_cast, Bool.false_or, LeL, Le.refl, Le.any, and_self]; done)) (fun _ _ h => h) rfl rfl
             ·
              refine aAt_if rfl fun K166 hK166 => ?_
              simp only [↓bO, bS, bA, bF, ↓reduceIte, Nat.reduceEqDiff, reduceCtorEq, bL, undef, getO, aLenX, aLen, ln41, List.length_map, Nat.reduceAdd, Nat.reduceLeDiff, Int.toNat_natCast, Int.natCast_nonneg, gM hz, gM hz2, hk1, hk2, setIC, intC, List.length_set, List.set_set]
              refine hK166 _ ⟨⟨⟨_, _, rfl, by simp, rfl, trivial, trivial⟩, trivial⟩, ?_⟩
              try clear hK166 K166
              refine AAny_all1 (i := 15) (by kernel_rfl) ?_
              ·
               refine aAt_if rfl fun K167 hK167 => ?_
               simp only [↓bO, bS, bA, bF, ↓reduceIte, Nat.reduceEqDiff, reduceCtorEq, bL, undef, getO, aLenX, aLen, ln41, List.length_map, Nat.reduceAdd, Nat.reduceLeDiff, Int.toNat_natCast, Int.natCast_nonneg, gM hz, gM hz2, hk1, hk2, setIC, intC, List.length_set, List.set_set]
               refine hK167 _ ⟨⟨⟨_, _, rfl, by simp, rfl, trivial, trivial⟩, trivial⟩, ?_⟩
               try clear hK167 K167
               refine AAny_all1 (i := 18) (by kernel_rfl) ?_
               ·
                refine aAt_if rfl fun K168 hK168 => ?_
                simp only [↓bO, bS, bA, bF, ↓reduceIte, Nat.reduceEqDiff, reduceCtorEq, bL, undef, aBin, List.length_map, Nat.reduceAdd, Nat.reduceLeDiff, Int.toNat_natCast, Int.natCast_nonneg, gM hz, gM hz2, hk1, hk2, setIC, intC, List.length_set, List.set_set]
                refine hK168 _ ⟨⟨⟨_, _, rfl, by simp, rfl, trivial, trivial⟩, trivial⟩, ?_⟩
                try clear hK168 K168
                refine AAny_all1 (i := 19) (by kernel_rfl) ?_
                ·
                 refine aAt_op rfl rfl fun K169 hK169 => ?_
                 simp only [↓bO, bS, bA, bF, ↓reduceIte, Nat.reduceEqDiff, reduceCtorEq, aBool, List.length_map, bL, Nat.reduceAdd, Nat.reduceLeDiff, Int.toNat_natCast, Int.natCast_nonneg, gM hz, gM hz2, hk1, hk2, setIC, intC, List.length_set, List.set_set]
                 refine hK169 _ ⟨⟨⟨_, _, rfl, by simp, rfl, trivial, trivial⟩, trivial⟩, ?_⟩
                 try clear hK169 K169
                 refine AAny_done (by kernel_rfl) ?_
                 simp only [bF]
                 try simp only [maskL, setsL, putsO, putO, bA, Nat.reduceEqDiff, ↓reduceIte]
                 first | rw [hcl] | rw [clash]
                 exact Weak.mk (by first | (simp only [LeL, Le.refl, Le.any, and_self]; done) | (simp only [clash, hc93, bne_cast, Bool.false_or, LeL, Le.refl, Le.any, and_self]; done)) (fun _ _ h => h) rfl rfl
           ·
            refine aAt_if rfl fun K170 hK170 => ?_
            simp only [↓bO, bS, bA, bF, ↓reduceIte, Nat.reduceEqDiff, reduceCtorEq, bL, undef, List.length_map, Nat.reduceAdd, Nat.reduceLeDiff, Int.toNat_natCast, Int.natCast_nonneg, gM hz, gM hz2, hk1, hk2, setIC, intC, List.length_set, List.set_set]
            refine hK170 _ ⟨⟨⟨_, _, rfl, by simp, rfl, trivial, trivial⟩, trivial⟩, ?_⟩
            try clear hK170 K170
            refine AAny_all2 (i := 14) (j := 17) (by kernel_rfl) ?_ ?_
            ·
             refine aAt_if rfl fun K171 hK171 => ?_
             simp only [↓bO, bS, bA, bF, ↓reduceIte, Nat.reduceEqDiff, reduceCtorEq, bL, undef, List.length_map, Nat.reduceAdd, Nat.reduceLeDiff, Int.toNat_natCast, Int.natCast_nonneg, gM hz, gM hz2, hk1, hk2, setIC, intC, List.length_set, List.set_set]
             refine hK171 _ ⟨⟨⟨_, _, rfl, by simp, rfl, trivial, trivial⟩, trivial⟩, ?_⟩
             try clear hK171 K171
             refine AAny_all2 (i := 15) (j := 17) (by kernel_rfl) ?_ ?_
             ·
              refine aAt_if rfl fun K172 hK172 => ?_
              simp only [↓bO, bS, bA, bF, ↓reduceIte, Nat.reduceEqDiff, reduceCtorEq, bL, undef, getO, aLenX, aLen, ln41, List.length_map, Nat.reduceAdd, Nat.reduceLeDiff, Int.toNat_natCast, Int.natCast_nonneg, gM hz, gM hz2, hk1, hk2, setIC, intC, List.length_set, List.set_set]
              refine hK172 _ ⟨⟨⟨_, _, rfl, by simp, rfl, trivial, trivial⟩, trivial⟩, ?_⟩
              try clear hK172 K172
              refine AAny_all1 (i := 17) (by kernel_rfl) ?_
              ·
               refine aAt_if rfl fun K173 hK173 => ?_
               simp only [↓bO, bS, bA, bF, ↓reduceIte, Nat.reduceEqDiff, reduceCtorEq, bL, undef, getO, aLenX, aLen, ln41, List.length_map, Nat.reduceAdd, Nat.reduceLeDiff, Int.toNat_natCast, Int.natCast_nonneg, gM hz, gM hz2, hk1, hk2, setIC, intC, List.length_set, List.set_set]
               refine hK173 _ ⟨⟨⟨_, _, rfl, by simp, rfl, trivial, trivial⟩, trivial⟩, ?_⟩
               try clear hK173 K173
               refine AAny_all1 (i := 18) (by kernel_rfl) ?_
               ·
                refine aAt_if rfl fun K174 hK174 => ?_
                simp only [↓bO, bS, bA, bF, ↓reduceIte, Nat.reduceEqDiff, reduceCtorEq, bL, undef, aBin, List.length_map, Nat.reduceAdd, Nat.reduceLeDiff, Int.toNat_natCast, Int.natCast_nonneg, gM hz, gM hz2, hk1, hk2, setIC, intC, List.length_set, List.set_set]
                refine hK174 _ ⟨⟨⟨_, _, rfl, by simp, rfl, trivial, trivial⟩, trivial⟩, ?_⟩
                try clear hK174 K174
                refine AAny_all1 (i := 19) (by kernel_rfl) ?_
                ·
                 refine aAt_op rfl rfl fun K175 hK175 => ?_
                 simp only [↓bO, bS, bA, bF, ↓reduceIte, Nat.reduceEqDiff, reduceCtorEq, aBool, List.length_map, bL, Nat.reduceAdd, Nat.reduceLeDiff, Int.toNat_natCast, Int.natCast_nonneg, gM hz, gM hz2, hk1, hk2, setIC, intC, List.length_set, List.set_set]
                 refine hK175 _ ⟨⟨⟨_, _, rfl, by simp, rfl, trivial, trivial⟩, trivial⟩, ?_⟩
                 try clear hK175 K175
                 refine AAny_done (by kernel_rfl) ?_
                 simp only [bF]
                 try simp only [maskL, setsL, putsO, putO, bA, Nat.reduceEqDiff, ↓reduceIte]
                 first | rw [hcl] | rw [clash]
                 exact Weak.mk (by first | (simp only [LeL, Le.refl, Le.any, and_self]; done) | (simp only [clash, hc93, bne_cast, Bool.false_or, LeL, Le.refl, Le.any, and_self]; done)) (fun _ _ h => h) rfl rfl
             ·
              refine aAt_if rfl fun K176 hK176 => ?_
              simp only [↓bO, bS, bA, bF, ↓reduceIte, Nat.reduceEqDiff, reduceCtorEq, bL, undef, getO, aLenX, aLen, ln41, List.length_map, Nat.reduceAdd, Nat.reduceLeDiff, Int.toNat_natCast, Int.natCast_nonneg, gM hz, gM hz2, hk1, hk2, setIC, intC, List.length_set, List.set_set]
              refine hK176 _ ⟨⟨⟨_, _, rfl, by simp, rfl, trivial, trivial⟩, trivial⟩, ?_⟩
              try clear hK176 K176
              refine AAny_all1 (i := 15) (by kernel_rfl) ?_
              ·
               refine aAt_if rfl fun K177 hK177 => ?_
               simp only [↓bO, bS, bA, bF, ↓reduceIte, Nat.reduceEqDiff, reduceCtorEq, bL, undef, getO, aLenX, aLen, ln41, List.length_map, Nat.reduceAdd, Nat.reduceLeDiff, Int.toNat_natCast, Int.natCast_nonneg, gM hz, gM hz2, hk1, hk2, setIC, intC, List.length_set, List.set_set]
               refine hK177 _ ⟨⟨⟨_, _, rfl, by simp, rfl, trivial, trivial⟩, trivial⟩, ?_⟩
               try clear hK177 K177
               refine AAny_all1 (i := 18) (by kernel_rfl) ?_
               ·
                refine aAt_if rfl fun K178 hK178 => ?_
                simp only [↓bO, bS, bA, bF, ↓reduceIte, Nat.reduceEqDiff, reduceCtorEq, bL, undef, aBin, List.length_map, Nat.reduceAdd, Nat.reduceLeDiff, Int.toNat_natCast, Int.natCast_nonneg, gM hz, gM hz2, hk1, hk2, setIC, intC, List.length_set, List.set_set]
                refine hK178 _ ⟨⟨⟨_, _, rfl, by simp, rfl, trivial, trivial⟩, trivial⟩, ?_⟩
                try clear hK178 K178
                refine AAny_all1 (i := 19) (by kernel_rfl) ?_
                ·
                 refine aAt_op rfl rfl fun K179 hK179 => ?_
                 simp only [↓bO, bS, bA, bF, ↓reduceIte, Nat.reduceEqDiff, reduceCtorEq, aBool, List.length_map, bL, Nat.reduceAdd, Nat.reduceLeDiff, Int.toNat_natCast, Int.natCast_nonneg, gM hz, gM hz2, hk1, hk2, setIC, intC, List.length_set, List.set_set]
                 refine hK179 _ ⟨⟨⟨_, _, rfl, by simp, rfl, trivial, trivial⟩, trivial⟩, ?_⟩
                 try clear hK179 K179
                 refine AAny_done (by kernel_rfl) ?_
                 simp only [bF]
                 try simp only [maskL, setsL, putsO, putO, bA, Nat.reduceEqDiff, ↓reduceIte]
                 first | rw [hcl] | rw [clash]
                 exact Weak.mk (by first | (simp only [LeL, Le.refl, Le.any, and_self]; done) | (simp only [clash, hc93, bne_cast, Bool.false_or, LeL, Le.refl, Le.any, and_self]; done)) (fun _ _ h => h) rfl rfl
            ·
             refine aAt_if rfl fun K180 hK180 => ?_
             simp only [↓bO, bS, bA, bF, ↓reduceIte, Nat.reduceEqDiff, reduceCtorEq, bL, undef, getO, aLenX, aLen, ln41, List.length_map, Nat.reduceAdd, Nat.reduceLeDiff, Int.toNat_natCast, Int.natCast_nonneg, gM hz, gM hz2, hk1, hk2, setIC, intC, List.length_set, List.set_set]
             refine hK180 _ ⟨⟨⟨_, _, rfl, by simp, rfl, trivial, trivial⟩, trivial⟩, ?_⟩
             try clear hK180 K180
             refine AAny_all1 (i := 14) (by kernel_rfl) ?_
             ·
              refine aAt_if rfl fun K181 hK181 => ?_
              simp only [↓bO, bS, bA, bF, ↓reduceIte, Nat.reduceEqDiff, reduceCtorEq, bL, undef, List.length_map, Nat.reduceAdd, Nat.reduceLeDiff, Int.toNat_natCast, Int.natCast_nonneg, gM hz, gM hz2, hk1, hk2, setIC, intC, List.length_set, List.set_set]
              refine hK181 _ ⟨⟨⟨_, _, rfl, by simp, rfl, trivial, trivial⟩, trivial⟩, ?_⟩
              try clear hK181 K181
              refine AAny_all1 (i := 15) (by kernel_rfl) ?_
              ·
               refine aAt_if rfl fun K182 hK182 => ?_
               simp only [↓bO, bS, bA, bF, ↓reduceIte, Nat.reduceEqDiff, reduceCtorEq, bL, undef, getO, aLenX, aLen, ln41, List.length_map, Nat.reduceAdd, Nat.reduceLeDiff, Int.toNat_natCast, Int.natCast_nonneg, gM hz, gM hz2, hk1, hk2, setIC, intC, List.length_set, List.set_set]
               refine hK182 _ ⟨⟨⟨_, _, rfl, by simp, rfl, trivial, trivial⟩, trivial⟩, ?_⟩
               try clear hK182 K182
               refine AAny_all1 (i := 18) (by kernel_rfl) ?_
               ·
                refine aAt_if rfl fun K183 hK183 => ?_
                simp only [↓bO, bS, bA, bF, ↓reduceIte, Nat.reduceEqDiff, reduceCtorEq, bL, undef, aBin, List.length_map, Nat.reduceAdd, Nat.reduceLeDiff, Int.toNat_natCast, Int.natCast_nonneg, gM hz, gM hz2, hk1, hk2, setIC, intC, List.length_set, List.set_set]
                refine hK183 _ ⟨⟨⟨_, _, rfl, by simp, rfl, trivial, trivial⟩, trivial⟩, ?_⟩
                try clear hK183 K183
                refine AAny_all1 (i := 19) (by kernel_rfl) ?_
                ·
                 refine aAt_op rfl rfl fun K184 hK184 => ?_
                 simp only [↓bO, bS, bA, bF, ↓reduceIte, Nat.reduceEqDiff, reduceCtorEq, aBool, List.length_map, bL, Nat.reduceAdd, Nat.reduceLeDiff, Int.toNat_natCast, Int.natCast_nonneg, gM hz, gM hz2, hk1, hk2, setIC, intC, List.length_set, List.set_set]
                 refine hK184 _ ⟨⟨⟨_, _, rfl, by simp, rfl, trivial, trivial⟩, trivial⟩, ?_⟩
                 try clear hK184 K184
                 refine AAny_done (by kernel_rfl) ?_
                 simp only [bF]
                 try simp only [maskL, setsL, putsO, putO, bA, Nat.reduceEqDiff, ↓reduceIte]
                 first | rw [hcl] | rw [clash]
                 exact Weak.mk (by first | (simp only [LeL, Le.refl, Le.any, and_self]; done) | (simp only [clash, hc93, bne_cast, Bool.false_or, LeL, Le.refl, Le.any, and_self]; done)) (fun _ _ h => h) rfl rfl
      simp only [maskL, setsL, putsO, putO, bA, Nat.reduceEqDiff, ↓reduceIte]
      refine AWp_cond rfl (fun hb99 => ?_) (fun hb99 => ?_)
      ·
       have hcl : clash gx gy = true := by simpa using hb99
       refine AWp_seqK fun K185 hK185 => ?_
       refine AWp_region ?_
       simp only [↓bO, bS, bA, bF, ↓reduceIte, Nat.reduceEqDiff, reduceCtorEq, List.length_map, bL, Nat.reduceAdd, Nat.reduceLeDiff, Int.toNat_natCast, Int.natCast_nonneg, gM hz, gM hz2, hk1, hk2, setIC, intC, List.length_set, List.set_set]
       refine hK185 _ ?_; try clear hK185 K185
       refine AWp_ret ?_
       try simp only [bF, retQ, aRes, tupOf, bS, bA]
       refine ⟨_, enumO 0 (cObs ({ S with F := G3, W := S.W.set r.1 j.2.2.2.1 })), ⟨({ S with F := G3, W := S.W.set r.1 j.2.2.2.1 }, ([], false)), ?_, rfl, rfl⟩, .tup ⟨.data (pC_data _), .v _ _, trivial⟩, cUnd (by omega) _, ?_, ?_, by omega⟩
       · exact ⟨⟨rfl, rfl, r.1, r.2, FJoin.of hj.1 hG3, .inr ⟨by simpa using hb45, j.2.1, j.2.2.1, j.2.2.2.1, j.2.2.2.2, hj.2.1, hj.2.2.1, hj.2.2.2.1, hj.2.2.2.2, .inr ⟨hx0, hy0, rfl, gx, gy, hgx, hgy, .inl ⟨hcl, rfl⟩⟩⟩⟩, rfl⟩
       ·
        exact Le.tup ⟨Le.slNil 2, .refl _, trivial⟩
       · first | (refine ⟨0, rfl, rfl⟩) | (refine ⟨0, by simp only [cObs, enumO, List.drop_zero, List.drop_succ_cons, Nat.reduceAdd, List.length_set], rfl⟩)
      ·
       have hcl : clash gx gy = false := by simpa using hb99
       have hll : gx.parts.length = gy.parts.length := by have h9 := hcl; simp [clash] at h9; exact h9.2
       refine AWp_skip ?_
       try simp only [bF]
       refine hK110 _ ?_; try clear hK110 K110
       refine AWp_seqK fun K186 hK186 => ?_
       refine AWp_region ?_
       simp only [↓bO, bS, bA, bF, ↓reduceIte, Nat.reduceEqDiff, reduceCtorEq, List.length_map, bL, Nat.reduceAdd, Nat.reduceLeDiff, Int.toNat_natCast, Int.natCast_nonneg, gM hz, gM hz2, hk1, hk2, setIC, intC, List.length_set, List.set_set]
       refine hK186 _ ?_; try clear hK186 K186
       refine AWp_seqK fun K187 hK187 => ?_
       refine AWp_seqK fun K188 hK188 => ?_
       refine AWp_region ?_
       refine aops_chunk 2 fun C189 hC189 => ?_
       simp only [bL, ↓bO, bS, bA, bF, ↓reduceIte, Nat.reduceEqDiff, reduceCtorEq, getO, aLenX, aLen, ln41, List.length_map, Nat.reduceAdd, Nat.reduceLeDiff, Int.toNat_natCast, Int.natCast_nonneg, gM hz, gM hz2, hk1, hk2, setIC, intC, List.length_set, List.set_set]
       refine hC189 _ ?_; clear hC189 C189
       simp only [bL]
       simp only [↓bO, bS, bA, bF, ↓reduceIte, Nat.reduceEqDiff, reduceCtorEq, List.length_map, bL, Nat.reduceAdd, Nat.reduceLeDiff, Int.toNat_natCast, Int.natCast_nonneg, gM hz, gM hz2, hk1, hk2, setIC, intC, List.length_set, List.set_set]
       refine hK188 _ ?_; try clear hK188 K188
       refine AWp_block ?_
       refine AWp_weak (Weak.tokSlot 14 90 2 rfl) ?_
       simp only [List.set_cons_zero, List.set_cons_succ]
       refine AWp_loopM (σ := Nat) [false, false, false, false, false, false, false, false, false, false, false, false, true, true, true, false, false, false, false, false, false, false, false, false, false, false, false, false, false, false, false, false, false, false, false, false, false, false, false, false, false, false, false, false, false, false, false, false, false, false, false, false, false, false, false, false, false, false, false, false, false, false, false, false, false, false, false, false, false, false, false, false, false, false, false, false, false, false, false, false, false, false, false, false, false, false, false, false, false, false, false, false, false, false, false, false, false, false, false, false, false, true, true, false, false, false, false, false, false, false, false, false, false, false, false, false, false, false, false] (fun s => s ≤ gx.parts.length) (fun s => [(14, .osl 8 2 (((gx.parts.zip gy.parts).take s).map pC)), (102, .v (.int .i64 (s : Int)))]) (fun s => [(8, .tok 90 2 s)]) (fun s => gx.parts.length - s) 0 (by omega) ?_ (fun s hs => ?_)
       ·
        simp only [maskL, setsL, putsO, putO, bA, Nat.reduceEqDiff, ↓reduceIte, bL]
        exact Weak.mk (by simp only [LeL, Le.refl, Le.any, Le.slNil, and_self, Int.natCast_add, Int.cast_ofNat_Int, Int.natCast_one]) (fun _ _ h => h) rfl rfl
       simp only [maskL, setsL, putsO, putO, bA, Nat.reduceEqDiff, ↓reduceIte]
       refine AWp_seqK fun K190 hK190 => ?_
       refine AWp_region ?_
       simp only [↓bO, bS, bA, bF, ↓reduceIte, Nat.reduceEqDiff, reduceCtorEq, aBin, List.length_map, bL, Nat.reduceAdd, Nat.reduceLeDiff, Int.toNat_natCast, Int.natCast_nonneg, gM hz, gM hz2, hk1, hk2, setIC, intC, List.length_set, List.set_set]
       refine hK190 _ ?_; try clear hK190 K190
       refine AWp_seqK fun K191 hK191 => ?_
       refine AWp_cond rfl (fun hb103 => ?_) (fun hb103 => ?_)
       ·
        have hk : s < gx.parts.length := by simpa using hb103
        have hkk2 : s < gy.parts.length := by omega
        obtain ⟨p, hp⟩ : ∃ p, gx.parts[s]? = some p := ⟨_, List.getElem?_eq_getElem hk⟩
        obtain ⟨q, hq⟩ : ∃ q, gy.parts[s]? = some q := ⟨_, List.getElem?_eq_getElem hkk2⟩
        have hpq : (gx.parts.zip gy.parts)[s]? = some (p, q) := by rw [List.getElem?_zip_eq_some]; exact ⟨hp, hq⟩
        have hw : IntKind.i64.wrap ((s : Int) + 1) = (s : Int) + 1 := wrap_in (by omega) (by omega)
        have hln : (((gx.parts.zip gy.parts).take s).map pC).length = s := by simp; omega
        have hb1 : (s + 1) * 16 ≤ 140737488355328 := by omega
        have hb2 : s + 1 ≤ maxLen := by simp only [maxLen]; omega
        refine AWp_skip ?_
        try simp only [bF]
        refine hK191 _ ?_; try clear hK191 K191
        refine AWp_seqK fun K192 hK192 => ?_
        refine AWp_block ?_
        refine AWp_seqK fun K193 hK193 => ?_
        refine AWp_region ?_
        simp only [↓bO, bS, bA, bF, ↓reduceIte, Nat.reduceEqDiff, reduceCtorEq, List.length_map, bL, Nat.reduceAdd, Nat.reduceLeDiff, Int.toNat_natCast, Int.natCast_nonneg, hk, hkk2, gM hp, gM hq, intC, Int.natCast_add, Int.natCast_one, hw, hln, hb1, hb2, take_map_step pC hpq, pC, gM hz, gM hz2, hk1, hk2, setIC, List.length_set, List.set_set]
        refine hK193 _ ?_; try clear hK193 K193
        refine AWp_drawK 11 mixed (by kernel_rfl) fun K194 hK194 => ?_
        simp only [bL]
        refine dRun_chunk 2 fun C195 hC195 => ?_
        simp only [bL, ↓dRun, ↓dOp, ↓bO, bS, bA, bF, ↓reduceIte, Nat.reduceEqDiff, reduceCtorEq, List.length_map, Nat.reduceAdd, Nat.reduceLeDiff, Int.toNat_natCast, Int.natCast_nonneg, hk, hkk2, gM hp, gM hq, intC, Int.natCast_add, Int.natCast_one, hw, hln, hb1, hb2, take_map_step pC hpq, pC, gM hz, gM hz2, hk1, hk2, setIC, List.length_set, List.set_set]
        refine hC195 _ ?_; clear hC195 C195
        simp only [bL]
        refine dRun_chunk 2 fun C196 hC196 => ?_
        simp only [bL, ↓dRun, ↓dOp, ↓bO, bS, bA, bF, ↓reduceIte, Nat.reduceEqDiff, reduceCtorEq, getO, aIndexA, es41, Int.natCast_nonneg, Int.ofNat_lt, Int.toNat_natCast, List.length_map, Int.le_refl, Int.toNat_zero, Int.toNat_one, Int.reduceLE, Nat.reduceAdd, Nat.reduceLeDiff, hk, hkk2, gM hp, gM hq, intC, Int.natCast_add, Int.natCast_one, hw, hln, hb1, hb2, take_map_step pC hpq, pC, gM hz, gM hz2, hk1, hk2, setIC, List.length_set, List.set_set]
        refine hC196 _ ?_; clear hC196 C196
        simp only [bL]
        refine dRun_chunk 2 fun C197 hC197 => ?_
        simp only [bL, ↓dRun, ↓dOp, ↓bO, bS, bA, bF, ↓reduceIte, Nat.reduceEqDiff, reduceCtorEq, aLoad, ti3, getO, pack, Nat.reduceAdd, Nat.reduceLeDiff, List.length_map, Int.toNat_natCast, Int.natCast_nonneg, hk, hkk2, gM hp, gM hq, intC, Int.natCast_add, Int.natCast_one, hw, hln, hb1, hb2, take_map_step pC hpq, pC, gM hz, gM hz2, hk1, hk2, setIC, List.length_set, List.set_set]
        refine hC197 _ ?_; clear hC197 C197
        simp only [bL]
        refine dRun_chunk 2 fun C198 hC198 => ?_
        simp only [bL, ↓dRun, ↓dOp, ↓bO, bS, bA, bF, ↓reduceIte, Nat.reduceEqDiff, reduceCtorEq, getO, aIndexA, es41, Int.natCast_nonneg, Int.ofNat_lt, Int.toNat_natCast, List.length_map, Int.le_refl, Int.toNat_zero, Int.toNat_one, Int.reduceLE, Nat.reduceAdd, Nat.reduceLeDiff, hk, hkk2, gM hp, gM hq, intC, Int.natCast_add, Int.natCast_one, hw, hln, hb1, hb2, take_map_step pC hpq, pC, gM hz, gM hz2, hk1, hk2, setIC, List.length_set, List.set_set]
        refine hC198 _ ?_; clear hC198 C198
        simp only [bL]
        refine dRun_chunk 2 fun C199 hC199 => ?_
        simp only [bL, ↓dRun, ↓dOp, ↓bO, bS, bA, bF, ↓reduceIte, Nat.reduceEqDiff, reduceCtorEq, aLoad, ti3, getO, pack, Nat.reduceAdd, Nat.reduceLeDiff, aBuild, zc90, pc90, aFill, splice, List.length_map, Int.toNat_natCast, Int.natCast_nonneg, hk, hkk2, gM hp, gM hq, intC, Int.natCast_add, Int.natCast_one, hw, hln, hb1, hb2, take_map_step pC hpq, pC, gM hz, gM hz2, hk1, hk2, setIC, List.length_set, List.set_set]
        refine hC199 _ ?_; clear hC199 C199
        simp only [bL]
        simp only [↓dRun, ↓dOp, bL, ↓bO, bS, bA, bF, ↓reduceIte, Nat.reduceEqDiff, reduceCtorEq, ↓bs1_1, ↓bs1_2, ↓bs1_3, ↓bs1_4, ↓bs1_5, ↓bs1_6, ↓bs1_7, ↓bs1_8, ↓bs1_9, ↓bs1_10, ↓bs1_11, ↓bs1_12, aBuildSl, ei91, ia90, List.range_succ, List.range_zero, List.forall_mem_cons, List.not_mem_nil, false_imp_iff, implies_true, Nat.reduceAdd, Nat.reduceLeDiff, forall_eq, List.mem_singleton, List.length_map, Int.toNat_natCast, Int.natCast_nonneg, hk, hkk2, gM hp, gM hq, intC, Int.natCast_add, Int.natCast_one, hw, hln, hb1, hb2, take_map_step pC hpq, pC, gM hz, gM hz2, hk1, hk2, setIC, List.length_set, List.set_set]
        refine hK194 _ ?_; try clear hK194 K194
        simp only [bL]
        simp only [↓bO, bS, bA, bF, ↓reduceIte, Nat.reduceEqDiff, reduceCtorEq, aAppend, ei91, slIn, slAt, slOf, List.length_map, getO, putO, bL, Nat.reduceAdd, Nat.reduceLeDiff, Int.toNat_natCast, Int.natCast_nonneg, hk, hkk2, gM hp, gM hq, intC, Int.natCast_add, Int.natCast_one, hw, hln, hb1, hb2, take_map_step pC hpq, pC, gM hz, gM hz2, hk1, hk2, setIC, List.length_set, List.set_set]
        refine hK192 _ ?_; try clear hK192 K192
        refine AWp_region ?_
        simp only [↓bO, bS, bA, bF, ↓reduceIte, Nat.reduceEqDiff, reduceCtorEq, aBin, List.length_map, bL, Nat.reduceAdd, Nat.reduceLeDiff, Int.toNat_natCast, Int.natCast_nonneg, hk, hkk2, gM hp, gM hq, intC, Int.natCast_add, Int.natCast_one, hw, hln, hb1, hb2, take_map_step pC hpq, pC, gM hz, gM hz2, hk1, hk2, setIC, List.length_set, List.set_set]
        refine ⟨(s + 1), (by omega), by omega, ?_⟩
        simp only [maskL, setsL, putsO, putO, bA, Nat.reduceEqDiff, ↓reduceIte, hk, hkk2, gM hp, gM hq, intC, Int.natCast_add, Int.natCast_one, hw, hln, hb1, hb2, take_map_step pC hpq, pC, bL, gM hz, gM hz2, hk1, hk2, setIC, List.length_set, List.set_set]
        exact Weak.mk (by simp only [LeL, Le.refl, Le.any, Le.slNil, and_self, Int.natCast_add, Int.cast_ofNat_Int, Int.natCast_one]) (fun _ _ h => h) rfl rfl
       ·
        have hk : s = (gx.parts.zip gy.parts).length := by have h9 := hb103; simp at h9; simp; omega
        refine AWp_exit ?_
        simp only [bF, bA, Nat.reduceEqDiff, ↓reduceIte]
        refine hK187 _ ?_; try clear hK187 K187
        refine AWp_seqK fun K200 hK200 => ?_
        refine AWp_region ?_
        refine aops_chunk 2 fun C201 hC201 => ?_
        simp only [bL, ↓bO, bS, bA, bF, ↓reduceIte, Nat.reduceEqDiff, reduceCtorEq, List.length_map, Nat.reduceAdd, Nat.reduceLeDiff, Int.toNat_natCast, Int.natCast_nonneg, gM hz, gM hz2, hk1, hk2, setIC, intC, List.length_set, List.set_set]
        refine hC201 _ ?_; clear hC201 C201
        simp only [bL]
        simp only [↓bO, bS, bA, bF, ↓reduceIte, Nat.reduceEqDiff, reduceCtorEq, List.length_map, bL, Nat.reduceAdd, Nat.reduceLeDiff, Int.toNat_natCast, Int.natCast_nonneg, gM hz, gM hz2, hk1, hk2, setIC, intC, List.length_set, List.set_set]
        refine hK200 _ ?_; try clear hK200 K200
        refine AWp_ret ?_
        try simp only [bF, retQ, aRes, tupOf, bS, bA]
        refine ⟨_, enumO 0 (cObs ({ S with F := G3, W := S.W.set r.1 j.2.2.2.1 })), ⟨({ S with F := G3, W := S.W.set r.1 j.2.2.2.1 }, (gx.parts.zip gy.parts, true)), ?_, rfl, rfl⟩, .tup ⟨.data (pC_data _), .v _ _, trivial⟩, cUnd (by omega) _, ?_, ?_, by omega⟩
        · exact ⟨⟨rfl, rfl, r.1, r.2, FJoin.of hj.1 hG3, .inr ⟨by simpa using hb45, j.2.1, j.2.2.1, j.2.2.2.1, j.2.2.2.2, hj.2.1, hj.2.2.1, hj.2.2.2.1, hj.2.2.2.2, .inr ⟨hx0, hy0, rfl, gx, gy, hgx, hgy, .inr ⟨hcl, rfl⟩⟩⟩⟩, rfl⟩
        ·
         rw [hk, List.take_length]
         exact Le.tup ⟨Le.oslL, .refl _, trivial⟩
        · first | (refine ⟨1, rfl, rfl⟩) | (refine ⟨1, by simp only [cObs, enumO, List.drop_zero, List.drop_succ_cons, Nat.reduceAdd, List.length_set], rfl⟩)
end Go.Proofs.Ytjjjckjebkmnjaa
