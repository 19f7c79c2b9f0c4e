import Derived.Test.YtohdoloalolpfaaRef11
namespace Go.Proofs.Ytohdoloalolpfaa
open Go Go.RowKit
set_option maxRecDepth 100000
set_option maxHeartbeats 1000000
set_option linter.unusedSimpArgs false
set_option linter.unusedVariables false
attribute [local irreducible] aops dRun
/-- two lists element by element -/
def eqF {α : Type} (f : α → α → Bool) : List α → List α → Bool
  | [], [] => true
  | p :: ps, q :: qs => f p q && eqF f ps qs
  | _, _ => false
theorem eqF_len {α : Type} {f : α → α → Bool} : ∀ {ps qs : List α}, ps.length ≠ qs.length → eqF f ps qs = false
  | [], [], h => by simp at h
  | [], _ :: _, _ => rfl
  | _ :: _, [], _ => rfl
  | p :: ps, q :: qs, h => by simp only [eqF]; rw [eqF_len (by simpa using h)]; simp
theorem eqF_false {α : Type} {f : α → α → Bool} : ∀ {ps qs : List α} {k : Nat} {p q : α}, ps[k]? = some p → qs[k]? = some q → f p q = false → eqF f ps qs = false
  | [], _, k, p, q, h, _, _ => by simp at h
  | _ :: _, [], k, p, q, _, h, _ => by simp at h
  | a :: ps, b :: qs, 0, p, q, h1, h2, hf => by simp at h1 h2; subst h1; subst h2; simp [eqF, hf]
  | a :: ps, b :: qs, k + 1, p, q, h1, h2, hf => by simp only [eqF]; rw [eqF_false (k := k) (by simpa using h1) (by simpa using h2) hf]; simp
theorem eqF_true {α : Type} {f : α → α → Bool} : ∀ {ps qs : List α}, ps.length = qs.length → (∀ (k : Nat) (p q : α), ps[k]? = some p → qs[k]? = some q → f p q = true) → eqF f ps qs = true
  | [], [], _, _ => rfl
  | [], _ :: _, h, _ => by simp at h
  | _ :: _, [], h, _ => by simp at h
  | a :: ps, b :: qs, h, hf => by
    simp only [eqF]
    rw [hf 0 a b rfl rfl, eqF_true (by simpa using h) fun k p q hp hq => hf (k + 1) p q (by simpa using hp) (by simpa using hq)]; rfl
theorem sameL_eqF : ∀ ps qs : List Ty, Ty.sameL ps qs = eqF Ty.same ps qs
  | [], [] => by simp [Ty.sameL, eqF]
  | [], _ :: _ => by simp [Ty.sameL, eqF]
  | _ :: _, [] => by simp [Ty.sameL, eqF]
  | p :: ps, q :: qs => by simp [Ty.sameL, eqF, sameL_eqF ps qs]
/-- variables, each once, behind others -/
def addV (l : List Int) (n : Int) : List Int := if l.any (fun x => x == n) then l else l ++ [n]
mutual
def Ty.rvars : Ty → List Int → List Int
  | .mk k n ps, l => Ty.rvarsL ps (if k = 1 then addV l n else l)
def Ty.rvarsL : List Ty → List Int → List Int
  | [], l => l
  | p :: ps, l => Ty.rvarsL ps (Ty.rvars p l)
end
theorem Ty.rvars_eq (t : Ty) (l : List Int) : t.rvars l = Ty.rvarsL t.ps (if t.k = 1 then addV l t.n else l) := by cases t; rw [Ty.rvars]; rfl
theorem Ty.rvarsL_append : ∀ (ps qs : List Ty) (l : List Int), Ty.rvarsL (ps ++ qs) l = Ty.rvarsL qs (Ty.rvarsL ps l)
  | [], qs, l => by simp [Ty.rvarsL]
  | p :: ps, qs, l => by simp [Ty.rvarsL, Ty.rvarsL_append ps qs]
theorem Ty.rvarsL_step {ps : List Ty} {s : Nat} {p : Ty} (hp : ps[s]? = some p) (l : List Int) : Ty.rvarsL (ps.take (s + 1)) l = p.rvars (Ty.rvarsL (ps.take s) l) := by
  rw [List.take_add_one, hp, Ty.rvarsL_append]; simp [Ty.rvarsL]
theorem addV_cases (k n : Int) (l : List Int) : (k = 1 → (l.any fun x => x == n) = false → (if k = 1 then addV l n else l) = l ++ [n]) ∧ ((l.any fun x => x == n) = true → (if k = 1 then addV l n else l) = l) ∧ (¬ k = 1 → (if k = 1 then addV l n else l) = l) := by
  refine ⟨fun h1 h2 => ?_, fun h1 => ?_, fun h1 => ?_⟩
  · rw [if_pos h1, addV, if_neg (by rw [h2]; simp)]
  · split
    · rw [addV, if_pos h1]
    · rfl
  · rw [if_neg h1]
theorem addV_len (l : List Int) (n : Int) : (addV l n).length ≤ l.length + 1 := by unfold addV; split <;> simp
theorem Ty.rvars_len : ∀ (t : Ty) (l : List Int), (t.rvars l).length ≤ l.length + t.cnt := by
  refine Ty.ind fun t ih => ?_
  have key : ∀ ps : List Ty, (∀ p ∈ ps, ∀ l : List Int, (p.rvars l).length ≤ l.length + p.cnt) → ∀ l : List Int, (Ty.rvarsL ps l).length ≤ l.length + Ty.cntL ps := by
    intro ps
    induction ps with
    | nil => intro _ l; simp [Ty.rvarsL, Ty.cntL]
    | cons p ps ihp =>
      intro hp l
      have h1 := hp p (by simp) l
      have h2 := ihp (fun q hq => hp q (by simp [hq])) (p.rvars l)
      simp only [Ty.rvarsL, Ty.cntL]; omega
  intro l
  rw [Ty.rvars_eq, Ty.cnt_eq]
  have := key t.ps ih (if t.k = 1 then addV l t.n else l)
  have h2 : (if t.k = 1 then addV l t.n else l).length ≤ l.length + 1 := by split <;> first | exact addV_len l t.n | omega
  omega
theorem Ty.rvarsL_len (ps : List Ty) (l : List Int) : (Ty.rvarsL ps l).length ≤ l.length + Ty.cntL ps := by
  have := Ty.rvars_len (.mk 0 0 ps) l
  rw [Ty.rvars_eq, Ty.cnt_eq] at this
  induction ps generalizing l with
  | nil => simp [Ty.rvarsL, Ty.cntL]
  | cons p ps ih =>
    have h1 := p.rvars_len l
    have h2 := ih (p.rvars l) (by have := Ty.rvars_len (.mk 0 0 ps) (p.rvars l); rw [Ty.rvars_eq, Ty.cnt_eq] at this; exact this)
    simp only [Ty.rvarsL, Ty.cntL]; omega
/-- the last place of a number among some, counted on; else what was there -/
def numF (n : Int) : List Int → Nat → Int → Int
  | [], _, c => c
  | x :: xs, i, c => numF n xs (i + 1) (if x = n then (i : Int) else c)
theorem numF_append (n : Int) : ∀ (xs ys : List Int) (i : Nat) (c : Int), numF n (xs ++ ys) i c = numF n ys (i + xs.length) (numF n xs i c)
  | [], ys, i, c => by simp [numF]
  | x :: xs, ys, i, c => by simp [numF, numF_append n xs ys, Nat.add_assoc, Nat.add_comm 1]
theorem numF_step {l : List Int} {s : Nat} {x : Int} (hx : l[s]? = some x) (n c : Int) : numF n (l.take (s + 1)) 0 c = if x = n then (s : Int) else numF n (l.take s) 0 c := by
  have hlt := (List.getElem?_eq_some_iff.1 hx).1
  rw [List.take_add_one, hx, numF_append]
  simp only [Option.toList_some, numF, List.length_take, Nat.zero_add]
  rw [Nat.min_eq_left (by omega)]
mutual
/-- variables by their places among some -/
def Ty.number (l : List Int) : Ty → Ty
  | .mk k n ps => .mk k (if k = 1 then numF n l 0 n else n) (Ty.numberL l ps)
def Ty.numberL (l : List Int) : List Ty → List Ty
  | [] => []
  | p :: ps => Ty.number l p :: Ty.numberL l ps
end
theorem Ty.numberL_eq (l : List Int) : ∀ ps, Ty.numberL l ps = ps.map (Ty.number l)
  | [] => by simp [Ty.numberL]
  | p :: ps => by simp [Ty.numberL, Ty.numberL_eq l ps]
theorem Ty.number_eq (l : List Int) (t : Ty) : t.number l = .mk t.k (if t.k = 1 then numF t.n l 0 t.n else t.n) (t.ps.map (Ty.number l)) := by cases t; rw [Ty.number, Ty.numberL_eq]; rfl
def Ty.canon (t : Ty) : Ty := t.number (t.rvars [])
/-- a bind -/
structure Bd where
  v : Int
  t : Ty
def Bd.cells (b : Bd) : List AV := .v (.int .i64 b.v) :: b.t.cells
theorem Bd.cells_eq (b : Bd) : b.cells = [.v (.int .i64 b.v), .v (.int .i64 b.t.k), .v (.int .i64 b.t.n), .sl 3 (b.t.ps.map Ty.cells)] := by rw [Bd.cells, Ty.cells_eq]
theorem Bd.cells_len (b : Bd) : b.cells.length = 4 := by rw [b.cells_eq]; rfl
theorem Bd.data (b : Bd) : DataL b.cells := .cons (.v _) b.t.data
theorem Bd.dataSl (l : List Bd) : Data (.sl 4 (l.map Bd.cells)) := .sl fun x hx => by
  obtain ⟨y, _, rfl⟩ := List.mem_map.1 hx
  exact y.data
theorem Bd.take1 (b : Bd) : b.cells.take 1 = [.v (.int .i64 b.v)] := by rw [b.cells_eq]; rfl
theorem Bd.drop1 (b : Bd) : b.cells.drop 1 = b.t.cells := rfl
theorem Bd.one (b : Bd) : b.cells.all AV.one = true := by rw [b.cells_eq]; rfl
def bfind (l : List Bd) (n : Int) : Int := idxI (fun b => b.v == n) l
mutual
/-- what a substitution makes of a type -/
def Ty.sub (l : List Bd) : Ty → Ty
  | .mk k n ps => if k = 1 ∧ 0 ≤ bfind l n then ((l[(bfind l n).toNat]?).map Bd.t).getD (.mk 0 0 []) else .mk k n (Ty.subL l ps)
def Ty.subL (l : List Bd) : List Ty → List Ty
  | [] => []
  | p :: ps => Ty.sub l p :: Ty.subL l ps
end
theorem Ty.subL_eq (l : List Bd) : ∀ ps, Ty.subL l ps = ps.map (Ty.sub l)
  | [] => by simp [Ty.subL]
  | p :: ps => by simp [Ty.subL, Ty.subL_eq l ps]
theorem Ty.sub_yes {l : List Bd} {t : Ty} {b : Bd} (h : t.k = 1) (h0 : 0 ≤ bfind l t.n) (hb : l[(bfind l t.n).toNat]? = some b) : t.sub l = b.t := by
  obtain ⟨k, n, ps⟩ := t
  simp only [Ty.k, Ty.n] at h h0 hb
  rw [Ty.sub, if_pos ⟨h, h0⟩, hb]; rfl
theorem Ty.sub_no {l : List Bd} {t : Ty} (h : ¬ (t.k = 1 ∧ 0 ≤ bfind l t.n)) : t.sub l = .mk t.k t.n (t.ps.map (Ty.sub l)) := by
  obtain ⟨k, n, ps⟩ := t
  have h : ¬ (k = 1 ∧ 0 ≤ bfind l n) := h
  rw [Ty.sub, if_neg h, Ty.subL_eq]; rfl
def sameB (a b : List Bd) : Bool := eqF (fun x y => x.v == y.v && x.t.same y.t) a b
theorem EqualFuncTy_pure (ps qs : List Ty) (g : Nat) (f : Ty → Ty → Bool) (hf : ∀ p ∈ ps, ∀ q, APure Try.prog g [.agg p.cells, .agg q.cells] (.v (.bool (f p q)))) : APure Try.prog 110 [.sl 3 (ps.map Ty.cells), .sl 3 (qs.map Ty.cells), .clo g []] (.v (.bool (eqF f ps qs))) := by
  refine APure.mkL (.cons (Ty.dataSl ps) (.cons (Ty.dataSl qs) (.cons (.clo (fun _ h => by cases h)) .nil))) (.v _) ?_
  refine ACalls_intro Try.func110 (by kernel_rfl) rfl (by rw [Try.ntmps110]; simp) (fun hm => ?_)
  simp only [Try.ntmps110, Try.results110, List.length_cons, List.length_nil, Nat.reduceAdd, Nat.reduceSub, List.replicate_succ, List.replicate_zero, List.cons_append, List.nil_append]
  have hm1 := hm.len (sz := 3) (xs := ps.map Ty.cells) (by simp)
  rw [List.length_map] at hm1
  refine AWp_seqK fun K1 hK1 => ?_
  refine AWp_region ?_
  simp only [↓aops, ↓aop, ↓aWant, ↓aVal, bS, bA, AV.flat, AV.cl, AV.one, Value.oneCell', thenQ, blockQ, ↓reduceIte, Nat.reduceEqDiff, reduceCtorEq, tyX]
  refine hK1 _ ?_
  try clear hK1 K1
  refine AWp_seqK fun K2 hK2 => ?_
  refine AWp_seqK fun K3 hK3 => ?_
  refine AWp_region ?_
  refine aops_chunk 4 fun C4 hC4 => ?_
  simp only [bL, ↓aops, ↓aop, ↓aWant, ↓aVal, bS, bA, AV.flat, AV.cl, AV.one, Value.oneCell', thenQ, blockQ, ↓reduceIte, Nat.reduceEqDiff, reduceCtorEq, aLen, ln22, List.length_map, tyX]
  refine hC4 _ ?_
  try clear hC4 C4
  simp only [bL]
  simp only [↓aops, ↓aop, ↓aWant, ↓aVal, bS, bA, AV.flat, AV.cl, AV.one, Value.oneCell', thenQ, blockQ, ↓reduceIte, Nat.reduceEqDiff, reduceCtorEq, aBin, tyX]
  refine hK3 _ ?_
  try clear hK3 K3
  refine AWp_cond rfl (fun hb14 => ?_) (fun hb14 => ?_)
  · skip
    refine AWp_seqK fun K5 hK5 => ?_
    refine AWp_region ?_
    simp only [↓aops, ↓aop, ↓aWant, ↓aVal, bS, bA, AV.flat, AV.cl, AV.one, Value.oneCell', thenQ, blockQ, ↓reduceIte, Nat.reduceEqDiff, reduceCtorEq, tyX]
    refine hK5 _ ?_
    try clear hK5 K5
    refine AWp_ret ?_
    simp only [thenQ, blockQ, retQ, aRes, tupOf, bS, bA]
    refine Le.of_eq (congrArg (fun b => AV.v (.bool b)) ?_)
    first | (rw [eqF_len (ps := ps) (qs := qs) (by simp at hb14; omega)]; done) | (rw [eqF_false hp hq (by simpa using hb30)]; done) | (rw [eqF_true hl fun k p q hp hq => hs.2 k p q (by have := (List.getElem?_eq_some_iff.1 hp).1; omega) hp hq]; done)
  · skip
    have hl : ps.length = qs.length := by simp at hb14; omega
    refine AWp_skip ?_
    simp only [thenQ, blockQ]
    refine hK2 _ ?_
    try clear hK2 K2
    refine AWp_seqK fun K6 hK6 => ?_
    refine AWp_seqK fun K7 hK7 => ?_
    refine AWp_region ?_
    simp only [↓aops, ↓aop, ↓aWant, ↓aVal, bS, bA, AV.flat, AV.cl, AV.one, Value.oneCell', thenQ, blockQ, ↓reduceIte, Nat.reduceEqDiff, reduceCtorEq, aLen, ln22, List.length_map, tyX]
    refine hK7 _ ?_
    try clear hK7 K7
    refine AWp_block ?_
    refine AWp_loopM (σ := Nat) [false, true, true, false, false, false, false, false, false, false, false, false, false, false, false, true, true, true, false, false, false, false, false, false, false, false, false, false, false, false, false, false] (fun s => s ≤ ps.length ∧ ∀ (k : Nat) (p q : Ty), k < s → ps[k]? = some p → qs[k]? = some q → f p q = true) (fun s => [(17, .v (.int .i64 (s : Int)))]) (fun s => []) (fun s => ps.length - s) 0 (⟨by omega, fun k p q hk => by omega⟩) ?_ (fun s hs => ?_)
    · skip
      simp only [maskL, setsL, putsO, putO, bA, Nat.reduceEqDiff, ↓reduceIte]
      exact Weak.mk (by simp only [LeL, Le.refl, Le.any, Le.slNil, and_self, Int.natCast_add, Int.cast_ofNat_Int, Int.natCast_one]) (fun _ _ h => h) rfl rfl
    simp only [maskL, setsL, putsO, putO, bA, Nat.reduceEqDiff, ↓reduceIte]
    refine AWp_seqK fun K8 hK8 => ?_
    refine AWp_region ?_
    simp only [↓aops, ↓aop, ↓aWant, ↓aVal, bS, bA, AV.flat, AV.cl, AV.one, Value.oneCell', thenQ, blockQ, ↓reduceIte, Nat.reduceEqDiff, reduceCtorEq, aBin, tyX]
    refine hK8 _ ?_
    try clear hK8 K8
    refine AWp_seqK fun K9 hK9 => ?_
    refine AWp_cond rfl (fun hb18 => ?_) (fun hb18 => ?_)
    · skip
      have hk : s < ps.length := by simpa using hb18
      obtain ⟨p, hp⟩ : ∃ p, ps[s]? = some p := ⟨_, List.getElem?_eq_getElem hk⟩
      have hk2 : s < qs.length := by omega
      obtain ⟨q, hq⟩ : ∃ q, qs[s]? = some q := ⟨_, List.getElem?_eq_getElem hk2⟩
      have hw : IntKind.i64.wrap ((s : Int) + 1) = (s : Int) + 1 := wrap_in (by omega) (by simp only [maxLen] at hm1; omega)
      refine AWp_skip ?_
      simp only [thenQ, blockQ]
      refine hK9 _ ?_
      try clear hK9 K9
      refine AWp_seqK fun K10 hK10 => ?_
      refine AWp_block ?_
      refine AWp_seqK fun K11 hK11 => ?_
      refine AWp_region ?_
      refine aops_chunk 4 fun C12 hC12 => ?_
      simp only [bL, ↓aops, ↓aop, ↓aWant, ↓aVal, bS, bA, AV.flat, AV.cl, AV.one, Value.oneCell', thenQ, blockQ, ↓reduceIte, Nat.reduceEqDiff, reduceCtorEq, aIndexA, es22, Int.natCast_nonneg, Int.ofNat_lt, Int.toNat_natCast, List.length_map, Int.le_refl, Int.toNat_zero, Int.toNat_one, Int.reduceLE, aLoad, ti32, getO, pack, Nat.reduceAdd, Nat.reduceLeDiff, zc32, tyX, hk, hk2, getD_map_cells hp, getD_map_cells hq, Int.natCast_add, Int.natCast_one, hw]
      refine hC12 _ ?_
      try clear hC12 C12
      simp only [bL]
      simp only [↓aops, ↓aop, ↓aWant, ↓aVal, bS, bA, AV.flat, AV.cl, AV.one, Value.oneCell', thenQ, blockQ, ↓reduceIte, Nat.reduceEqDiff, reduceCtorEq, aStore, ti32, getO, putO, splice, bL, Nat.reduceAdd, Nat.reduceLeDiff, tyX, hk, hk2, getD_map_cells hp, getD_map_cells hq, Int.natCast_add, Int.natCast_one, hw]
      refine hK11 _ ?_
      try clear hK11 K11
      refine AWp_seqK fun K13 hK13 => ?_
      refine AWp_region ?_
      refine aops_chunk 4 fun C14 hC14 => ?_
      simp only [bL, ↓aops, ↓aop, ↓aWant, ↓aVal, bS, bA, AV.flat, AV.cl, AV.one, Value.oneCell', thenQ, blockQ, ↓reduceIte, Nat.reduceEqDiff, reduceCtorEq, aIndexA, es22, Int.natCast_nonneg, Int.ofNat_lt, Int.toNat_natCast, List.length_map, Int.le_refl, Int.toNat_zero, Int.toNat_one, Int.reduceLE, aLoad, ti32, getO, pack, Nat.reduceAdd, Nat.reduceLeDiff, tyX, hk, hk2, getD_map_cells hp, getD_map_cells hq, Int.natCast_add, Int.natCast_one, hw]
      refine hC14 _ ?_
      try clear hC14 C14
      simp only [bL]
      simp only [↓aops, ↓aop, ↓aWant, ↓aVal, bS, bA, AV.flat, AV.cl, AV.one, Value.oneCell', thenQ, blockQ, ↓reduceIte, Nat.reduceEqDiff, reduceCtorEq, zc32, bL, aStore, ti32, getO, putO, splice, Nat.reduceAdd, Nat.reduceLeDiff, tyX, hk, hk2, getD_map_cells hp, getD_map_cells hq, Int.natCast_add, Int.natCast_one, hw]
      refine hK13 _ ?_
      try clear hK13 K13
      refine AWp_seqK fun K15 hK15 => ?_
      refine AWp_region ?_
      refine aops_chunk 3 fun C16 hC16 => ?_
      simp only [bL, ↓aops, ↓aop, ↓aWant, ↓aVal, bS, bA, AV.flat, AV.cl, AV.one, Value.oneCell', thenQ, blockQ, ↓reduceIte, Nat.reduceEqDiff, reduceCtorEq, aLoad, ti32, getO, pack, Nat.reduceAdd, Nat.reduceLeDiff, tyX, hk, hk2, getD_map_cells hp, getD_map_cells hq, Int.natCast_add, Int.natCast_one, hw]
      refine hC16 _ ?_
      try clear hC16 C16
      simp only [bL]
      refine aops_chunk 1 fun C17 hC17 => ?_
      simp only [bL, ↓aops, ↓aop, ↓aWant, ↓aVal, bS, bA, AV.flat, AV.cl, AV.one, Value.oneCell', thenQ, blockQ, ↓reduceIte, Nat.reduceEqDiff, reduceCtorEq, aCallV, tyX, hk, hk2, getD_map_cells hp, getD_map_cells hq, Int.natCast_add, Int.natCast_one, hw]
      refine APure.call (hf p (List.mem_of_getElem? hp) q) ?_
      try simp only [bS, bA, thenQ, blockQ]
      refine hC17 _ ?_
      try clear hC17 C17
      simp only [bL]
      simp only [↓aops, ↓aop, ↓aWant, ↓aVal, bS, bA, AV.flat, AV.cl, AV.one, Value.oneCell', thenQ, blockQ, ↓reduceIte, Nat.reduceEqDiff, reduceCtorEq, aUn, tyX, hk, hk2, getD_map_cells hp, getD_map_cells hq, Int.natCast_add, Int.natCast_one, hw]
      refine hK15 _ ?_
      try clear hK15 K15
      refine AWp_cond rfl (fun hb30 => ?_) (fun hb30 => ?_)
      · skip
        refine AWp_seqK fun K18 hK18 => ?_
        refine AWp_region ?_
        simp only [↓aops, ↓aop, ↓aWant, ↓aVal, bS, bA, AV.flat, AV.cl, AV.one, Value.oneCell', thenQ, blockQ, ↓reduceIte, Nat.reduceEqDiff, reduceCtorEq, tyX, hk, hk2, getD_map_cells hp, getD_map_cells hq, Int.natCast_add, Int.natCast_one, hw]
        refine hK18 _ ?_
        try clear hK18 K18
        refine AWp_ret ?_
        simp only [thenQ, blockQ, retQ, aRes, tupOf, bS, bA]
        refine Le.of_eq (congrArg (fun b => AV.v (.bool b)) ?_)
        first | (rw [eqF_len (ps := ps) (qs := qs) (by simp at hb14; omega)]; done) | (rw [eqF_false hp hq (by simpa using hb30)]; done) | (rw [eqF_true hl fun k p q hp hq => hs.2 k p q (by have := (List.getElem?_eq_some_iff.1 hp).1; omega) hp hq]; done)
      · skip
        refine AWp_skip ?_
        simp only [thenQ, blockQ]
        refine hK10 _ ?_
        try clear hK10 K10
        refine AWp_region ?_
        simp only [↓aops, ↓aop, ↓aWant, ↓aVal, bS, bA, AV.flat, AV.cl, AV.one, Value.oneCell', thenQ, blockQ, ↓reduceIte, Nat.reduceEqDiff, reduceCtorEq, aBin, tyX, hk, hk2, getD_map_cells hp, getD_map_cells hq, Int.natCast_add, Int.natCast_one, hw]
        refine ⟨(s + 1), ⟨by omega, fun k p' q' hi h1 h2 => (by rcases Nat.lt_or_ge k s with h3 | h3 <;> first | exact hs.2 k p' q' h3 h1 h2 | (obtain rfl : k = s := (by omega); rw [hp] at h1; rw [hq] at h2; cases h1; cases h2; simpa using hb30))⟩, by omega, ?_⟩
        simp only [maskL, setsL, putsO, putO, bA, Nat.reduceEqDiff, ↓reduceIte, hk, hk2, getD_map_cells hp, getD_map_cells hq, Int.natCast_add, Int.natCast_one, hw]
        first | (refine Weak.drops 2 0 rfl rfl (by simp only; omega) (by simp only; omega) ?_ ?_ ?_) | (refine Weak.drops 1 0 rfl rfl (by simp only; omega) (by simp only; omega) ?_ ?_ ?_) | (refine Weak.drops 0 0 rfl rfl (by simp only; omega) (by simp only; omega) ?_ ?_ ?_)
        · simp only [LeL, Le.refl, Le.any, and_self, Int.natCast_add, Int.cast_ofNat_Int, Int.natCast_one]
        · simp only [UndL, UndOs, Ob.Und, and_true, true_and, and_self, Und.v, Und.any, Und.ptr, Und.map, Nat.reduceLT, Nat.zero_lt_succ, Und.tys, Und.tyAgg, Und.oslTys, Und.oslTys1, Und.clo0, Und.ty]
        · simp only [UndL, UndOs, Ob.Und, and_true, true_and, and_self, Und.v, Und.any, Und.ptr, Und.map, Nat.reduceLT, Nat.zero_lt_succ, Und.tys, Und.tyAgg, Und.oslTys, Und.oslTys1, Und.clo0, Und.ty]
    · skip
      have hk : s = ps.length := by have := hs.1; simp at hb18; omega
      refine AWp_exit ?_
      simp only [thenQ, blockQ, bA, Nat.reduceEqDiff, ↓reduceIte]
      refine hK6 _ ?_
      try clear hK6 K6
      refine AWp_seqK fun K19 hK19 => ?_
      refine AWp_region ?_
      simp only [↓aops, ↓aop, ↓aWant, ↓aVal, bS, bA, AV.flat, AV.cl, AV.one, Value.oneCell', thenQ, blockQ, ↓reduceIte, Nat.reduceEqDiff, reduceCtorEq, tyX]
      refine hK19 _ ?_
      try clear hK19 K19
      refine AWp_ret ?_
      simp only [thenQ, blockQ, retQ, aRes, tupOf, bS, bA]
      refine Le.of_eq (congrArg (fun b => AV.v (.bool b)) ?_)
      first | (rw [eqF_len (ps := ps) (qs := qs) (by simp at hb14; omega)]; done) | (rw [eqF_false hp hq (by simpa using hb30)]; done) | (rw [eqF_true hl fun k p q hp hq => hs.2 k p q (by have := (List.getElem?_eq_some_iff.1 hp).1; omega) hp hq]; done)
theorem TSame_pure : ∀ (T : Ty) (U : Ty), APure Try.prog 89 [.agg T.cells, .agg U.cells] (.v (.bool (T.same U))) := by
  refine Ty.ind fun T ih => ?_
  intro U
  refine APure.mkL (.cons T.dataAgg (.cons U.dataAgg .nil)) (.v _) ?_
  refine ACalls_intro Try.func89 (by kernel_rfl) rfl (by rw [Try.ntmps89]; simp) (fun hm => ?_)
  simp only [Try.ntmps89, Try.results89, List.length_cons, List.length_nil, Nat.reduceAdd, Nat.reduceSub, List.replicate_succ, List.replicate_zero, List.cons_append, List.nil_append]
  refine AWp_seqK fun K1 hK1 => ?_
  refine AWp_region ?_
  simp only [↓aops, ↓aop, ↓aWant, ↓aVal, bS, bA, AV.flat, AV.cl, AV.one, Value.oneCell', thenQ, blockQ, ↓reduceIte, Nat.reduceEqDiff, reduceCtorEq, tyX]
  refine hK1 _ ?_
  try clear hK1 K1
  refine AWp_seqK fun K2 hK2 => ?_
  refine AWp_region ?_
  refine aops_chunk 4 fun C3 hC3 => ?_
  simp only [bL, ↓aops, ↓aop, ↓aWant, ↓aVal, bS, bA, AV.flat, AV.cl, AV.one, Value.oneCell', thenQ, blockQ, ↓reduceIte, Nat.reduceEqDiff, reduceCtorEq, aField, fo32_0, Nat.reduceAdd, aLoad, ti3, getO, pack, Nat.reduceLeDiff, tyX]
  refine hC3 _ ?_
  try clear hC3 C3
  simp only [bL]
  refine aops_chunk 2 fun C4 hC4 => ?_
  simp only [bL, ↓aops, ↓aop, ↓aWant, ↓aVal, bS, bA, AV.flat, AV.cl, AV.one, Value.oneCell', thenQ, blockQ, ↓reduceIte, Nat.reduceEqDiff, reduceCtorEq, aBin, tyX]
  refine hC4 _ ?_
  try clear hC4 C4
  simp only [bL]
  refine aops_case 10 rfl (fun hc10 => ?_) (fun hc10 => ?_)
  · simp only [List.set_cons_zero, List.set_cons_succ]
    refine aops_chunk 4 fun C5 hC5 => ?_
    simp only [bL, ↓aops, ↓aop, ↓aWant, ↓aVal, bS, bA, AV.flat, AV.cl, AV.one, Value.oneCell', thenQ, blockQ, ↓reduceIte, Nat.reduceEqDiff, reduceCtorEq, undef, aField, fo32_1, Nat.reduceAdd, aLoad, ti3, getO, pack, Nat.reduceLeDiff, tyX]
    refine hC5 _ ?_
    try clear hC5 C5
    simp only [bL]
    refine aops_chunk 3 fun C6 hC6 => ?_
    simp only [bL, ↓aops, ↓aop, ↓aWant, ↓aVal, bS, bA, AV.flat, AV.cl, AV.one, Value.oneCell', thenQ, blockQ, ↓reduceIte, Nat.reduceEqDiff, reduceCtorEq, undef, aBin, aBool, tyX]
    refine hC6 _ ?_
    try clear hC6 C6
    simp only [bL]
    refine aops_case 17 rfl (fun hc17 => ?_) (fun hc17 => ?_)
    · simp only [List.set_cons_zero, List.set_cons_succ]
      refine aops_chunk 4 fun C7 hC7 => ?_
      simp only [bL, ↓aops, ↓aop, ↓aWant, ↓aVal, bS, bA, AV.flat, AV.cl, AV.one, Value.oneCell', thenQ, blockQ, ↓reduceIte, Nat.reduceEqDiff, reduceCtorEq, undef, aField, fo32_2, Nat.reduceAdd, aLoad, ti22, getO, pack, Nat.reduceLeDiff, tyX]
      refine hC7 _ ?_
      try clear hC7 C7
      simp only [bL]
      refine aops_chunk 1 fun C8 hC8 => ?_
      simp only [bL, ↓aops, ↓aop, ↓aWant, ↓aVal, bS, bA, AV.flat, AV.cl, AV.one, Value.oneCell', thenQ, blockQ, ↓reduceIte, Nat.reduceEqDiff, reduceCtorEq, undef, aCallV, tyX]
      refine APure.call (EqualFuncTy_pure T.ps U.ps 89 Ty.same (fun p hp q => ih p hp q)) ?_
      try simp only [bS, bA, thenQ, blockQ]
      refine hC8 _ ?_
      try clear hC8 C8
      simp only [bL]
      simp only [↓aops, ↓aop, ↓aWant, ↓aVal, bS, bA, AV.flat, AV.cl, AV.one, Value.oneCell', thenQ, blockQ, ↓reduceIte, Nat.reduceEqDiff, reduceCtorEq, aBool, tyX]
      refine hK2 _ ?_
      try clear hK2 K2
      refine AWp_ret ?_
      simp only [thenQ, blockQ, retQ, aRes, tupOf, bS, bA]
      refine Le.of_eq (congrArg (fun b => AV.v (.bool b)) ?_)
      rw [Ty.same_eq, sameL_eqF]
      simp_all
    · simp only [List.set_cons_zero, List.set_cons_succ]
      refine aops_chunk 4 fun C9 hC9 => ?_
      simp only [bL, ↓aops, ↓aop, ↓aWant, ↓aVal, bS, bA, AV.flat, AV.cl, AV.one, Value.oneCell', thenQ, blockQ, ↓reduceIte, Nat.reduceEqDiff, reduceCtorEq, undef, aField, fo32_2, Nat.reduceAdd, aLoad, ti22, getO, pack, Nat.reduceLeDiff, tyX]
      refine hC9 _ ?_
      try clear hC9 C9
      simp only [bL]
      simp only [↓aops, ↓aop, ↓aWant, ↓aVal, bS, bA, AV.flat, AV.cl, AV.one, Value.oneCell', thenQ, blockQ, ↓reduceIte, Nat.reduceEqDiff, reduceCtorEq, bL, undef, aCallV, aBool, tyX]
      refine hK2 _ ?_
      try clear hK2 K2
      refine AWp_ret ?_
      simp only [thenQ, blockQ, retQ, aRes, tupOf, bS, bA]
      refine Le.of_eq (congrArg (fun b => AV.v (.bool b)) ?_)
      rw [Ty.same_eq, sameL_eqF]
      simp_all
  · simp only [List.set_cons_zero, List.set_cons_succ]
    refine aops_chunk 4 fun C10 hC10 => ?_
    simp only [bL, ↓aops, ↓aop, ↓aWant, ↓aVal, bS, bA, AV.flat, AV.cl, AV.one, Value.oneCell', thenQ, blockQ, ↓reduceIte, Nat.reduceEqDiff, reduceCtorEq, undef, aField, fo32_1, Nat.reduceAdd, aLoad, ti3, getO, pack, Nat.reduceLeDiff, tyX]
    refine hC10 _ ?_
    try clear hC10 C10
    simp only [bL]
    refine aops_chunk 4 fun C11 hC11 => ?_
    simp only [bL, ↓aops, ↓aop, ↓aWant, ↓aVal, bS, bA, AV.flat, AV.cl, AV.one, Value.oneCell', thenQ, blockQ, ↓reduceIte, Nat.reduceEqDiff, reduceCtorEq, undef, aBin, aBool, aField, fo32_2, Nat.reduceAdd, tyX]
    refine hC11 _ ?_
    try clear hC11 C11
    simp only [bL]
    refine aops_chunk 4 fun C12 hC12 => ?_
    simp only [bL, ↓aops, ↓aop, ↓aWant, ↓aVal, bS, bA, AV.flat, AV.cl, AV.one, Value.oneCell', thenQ, blockQ, ↓reduceIte, Nat.reduceEqDiff, reduceCtorEq, undef, aLoad, ti22, getO, pack, Nat.reduceAdd, Nat.reduceLeDiff, aField, fo32_2, aCallV, tyX]
    refine hC12 _ ?_
    try clear hC12 C12
    simp only [bL]
    simp only [↓aops, ↓aop, ↓aWant, ↓aVal, bS, bA, AV.flat, AV.cl, AV.one, Value.oneCell', thenQ, blockQ, ↓reduceIte, Nat.reduceEqDiff, reduceCtorEq, aBool, tyX]
    refine hK2 _ ?_
    try clear hK2 K2
    refine AWp_ret ?_
    simp only [thenQ, blockQ, retQ, aRes, tupOf, bS, bA]
    refine Le.of_eq (congrArg (fun b => AV.v (.bool b)) ?_)
    rw [Ty.same_eq, sameL_eqF]
    simp_all
theorem In_pure (l : List Int) (n : Int) : APure Try.prog 94 [.sl 1 (l.map intC), .v (.int .i64 n)] (.v (.bool (l.any fun x => x == n))) := by
  refine APure.mkL (.cons (dataInts l) (.cons (.v _) .nil)) (.v _) ?_
  refine ACalls_intro Try.func94 (by kernel_rfl) rfl (by rw [Try.ntmps94]; simp) (fun hm => ?_)
  simp only [Try.ntmps94, Try.results94, List.length_cons, List.length_nil, Nat.reduceAdd, Nat.reduceSub, List.replicate_succ, List.replicate_zero, List.cons_append, List.nil_append]
  have hm1 := hm.len (sz := 1) (xs := l.map intC) (by simp)
  rw [List.length_map] at hm1
  refine AWp_seqK fun K1 hK1 => ?_
  refine AWp_region ?_
  simp only [↓aops, ↓aop, ↓aWant, ↓aVal, bS, bA, AV.flat, AV.cl, AV.one, Value.oneCell', thenQ, blockQ, ↓reduceIte, Nat.reduceEqDiff, reduceCtorEq, tyX]
  refine hK1 _ ?_
  try clear hK1 K1
  refine AWp_seqK fun K2 hK2 => ?_
  refine AWp_seqK fun K3 hK3 => ?_
  refine AWp_region ?_
  simp only [↓aops, ↓aop, ↓aWant, ↓aVal, bS, bA, AV.flat, AV.cl, AV.one, Value.oneCell', thenQ, blockQ, ↓reduceIte, Nat.reduceEqDiff, reduceCtorEq, tyX]
  refine hK3 _ ?_
  try clear hK3 K3
  refine AWp_block ?_
  refine AWp_loopM (σ := Nat) [true, true, false, false, false, true, false, false, false, false, false, false, false, false, false, false, false, false] (fun s => s ≤ l.length ∧ ∀ (i : Nat) (p : Int), i < s → l[i]? = some p → (p == n) = false) (fun s => [(5, .v (.int .i64 (s : Int)))]) (fun s => []) (fun s => l.length - s) 0 (⟨by omega, fun i p hi => by omega⟩) ?_ (fun s hs => ?_)
  · skip
    simp only [maskL, setsL, putsO, putO, bA, Nat.reduceEqDiff, ↓reduceIte]
    exact Weak.mk (by simp only [LeL, Le.refl, Le.any, Le.slNil, and_self, Int.natCast_add, Int.cast_ofNat_Int, Int.natCast_one]) (fun _ _ h => h) rfl rfl
  simp only [maskL, setsL, putsO, putO, bA, Nat.reduceEqDiff, ↓reduceIte]
  refine AWp_seqK fun K4 hK4 => ?_
  refine AWp_seqK fun K5 hK5 => ?_
  refine AWp_region ?_
  simp only [↓aops, ↓aop, ↓aWant, ↓aVal, bS, bA, AV.flat, AV.cl, AV.one, Value.oneCell', thenQ, blockQ, ↓reduceIte, Nat.reduceEqDiff, reduceCtorEq, aLen, ln28, List.length_map, aBin, tyX]
  refine hK5 _ ?_
  try clear hK5 K5
  refine AWp_cond rfl (fun hb9 => ?_) (fun hb9 => ?_)
  · skip
    have hk : s < l.length := by simpa using hb9
    obtain ⟨p, hp⟩ : ∃ p, l[s]? = some p := ⟨_, List.getElem?_eq_getElem hk⟩
    have hw : IntKind.i64.wrap ((s : Int) + 1) = (s : Int) + 1 := wrap_in (by omega) (by simp only [maxLen] at hm1; omega)
    refine AWp_skip ?_
    simp only [thenQ, blockQ]
    refine hK4 _ ?_
    try clear hK4 K4
    refine AWp_seqK fun K6 hK6 => ?_
    refine AWp_block ?_
    refine AWp_seqK fun K7 hK7 => ?_
    refine AWp_region ?_
    refine aops_chunk 4 fun C8 hC8 => ?_
    simp only [bL, ↓aops, ↓aop, ↓aWant, ↓aVal, bS, bA, AV.flat, AV.cl, AV.one, Value.oneCell', thenQ, blockQ, ↓reduceIte, Nat.reduceEqDiff, reduceCtorEq, aIndexA, es28, Int.natCast_nonneg, Int.ofNat_lt, Int.toNat_natCast, List.length_map, Int.le_refl, Int.toNat_zero, Int.toNat_one, Int.reduceLE, aLoad, ti3, getO, pack, Nat.reduceAdd, Nat.reduceLeDiff, tyX, hk, getD_map_cells hp, intC, Int.natCast_add, Int.natCast_one, hw]
    refine hC8 _ ?_
    try clear hC8 C8
    simp only [bL]
    simp only [↓aops, ↓aop, ↓aWant, ↓aVal, bS, bA, AV.flat, AV.cl, AV.one, Value.oneCell', thenQ, blockQ, ↓reduceIte, Nat.reduceEqDiff, reduceCtorEq, aBin, tyX, hk, getD_map_cells hp, intC, Int.natCast_add, Int.natCast_one, hw]
    refine hK7 _ ?_
    try clear hK7 K7
    refine AWp_cond rfl (fun hb17 => ?_) (fun hb17 => ?_)
    · skip
      refine AWp_seqK fun K9 hK9 => ?_
      refine AWp_region ?_
      simp only [↓aops, ↓aop, ↓aWant, ↓aVal, bS, bA, AV.flat, AV.cl, AV.one, Value.oneCell', thenQ, blockQ, ↓reduceIte, Nat.reduceEqDiff, reduceCtorEq, tyX, hk, getD_map_cells hp, intC, Int.natCast_add, Int.natCast_one, hw]
      refine hK9 _ ?_
      try clear hK9 K9
      refine AWp_ret ?_
      simp only [thenQ, blockQ, retQ, aRes, tupOf, bS, bA]
      refine Le.of_eq (congrArg (fun b => AV.v (.bool b)) ?_)
      first | (rw [all_not_of hp (by exact hb17)]; done) | (rw [any_false_of (fun i p hi hp => hs.2 i p (by omega) hp)]; done)
    · skip
      refine AWp_skip ?_
      simp only [thenQ, blockQ]
      refine hK6 _ ?_
      try clear hK6 K6
      refine AWp_region ?_
      simp only [↓aops, ↓aop, ↓aWant, ↓aVal, bS, bA, AV.flat, AV.cl, AV.one, Value.oneCell', thenQ, blockQ, ↓reduceIte, Nat.reduceEqDiff, reduceCtorEq, aBin, tyX, hk, getD_map_cells hp, intC, Int.natCast_add, Int.natCast_one, hw]
      refine ⟨(s + 1), ⟨by omega, fun i p' hi h1 => (by rcases Nat.lt_or_ge i s with h3 | h3 <;> first | exact hs.2 i p' h3 h1 | (obtain rfl : i = s := (by omega); rw [hp] at h1; cases h1; exact hb17))⟩, by omega, ?_⟩
      simp only [maskL, setsL, putsO, putO, bA, Nat.reduceEqDiff, ↓reduceIte, hk, getD_map_cells hp, intC, Int.natCast_add, Int.natCast_one, hw]
      exact Weak.mk (by simp only [LeL, Le.refl, Le.any, Le.slNil, and_self, Int.natCast_add, Int.cast_ofNat_Int, Int.natCast_one]) (fun _ _ h => h) rfl rfl
  · skip
    have hk : s = l.length := by have := hs.1; simp at hb9; omega
    refine AWp_exit ?_
    simp only [thenQ, blockQ, bA, Nat.reduceEqDiff, ↓reduceIte]
    refine hK2 _ ?_
    try clear hK2 K2
    refine AWp_seqK fun K10 hK10 => ?_
    refine AWp_region ?_
    simp only [↓aops, ↓aop, ↓aWant, ↓aVal, bS, bA, AV.flat, AV.cl, AV.one, Value.oneCell', thenQ, blockQ, ↓reduceIte, Nat.reduceEqDiff, reduceCtorEq, tyX]
    refine hK10 _ ?_
    try clear hK10 K10
    refine AWp_ret ?_
    simp only [thenQ, blockQ, retQ, aRes, tupOf, bS, bA]
    refine Le.of_eq (congrArg (fun b => AV.v (.bool b)) ?_)
    first | (rw [all_not_of hp (by exact hb17)]; done) | (rw [any_false_of (fun i p hi hp => hs.2 i p (by omega) hp)]; done)
theorem RVars_pure : ∀ (T : Ty) (l : List Int) (hl : l.length + T.cnt ≤ 1099511627776), APure Try.prog 65 [.agg T.cells, .sl 1 (l.map intC)] (.sl 1 ((T.rvars l).map intC)) := by
  refine Ty.ind fun T ih => ?_
  intro l hl
  refine APure.mkL (.cons T.dataAgg (.cons (dataInts l) .nil)) ((dataInts _)) ?_
  refine ACalls_intro Try.func65 (by kernel_rfl) rfl (by rw [Try.ntmps65]; simp) (fun hm => ?_)
  simp only [Try.ntmps65, Try.results65, List.length_cons, List.length_nil, Nat.reduceAdd, Nat.reduceSub, List.replicate_succ, List.replicate_zero, List.cons_append, List.nil_append]
  have hcn := T.cnt_eq
  have hcl := Ty.cntL_len T.ps
  simp only [Ty.cells_eq T, List.cons_append, List.nil_append]
  have hl0 : (if T.k = 1 then addV l T.n else l).length ≤ l.length + 1 := by split <;> first | exact addV_len l T.n | omega
  have hb1 : l.length * 8 ≤ 140737488355328 := by omega
  have hb2 : l.length ≤ maxLen := by simp only [maxLen]; omega
  have hb3 : (l.length + 1) * 8 ≤ 140737488355328 := by omega
  have hb4 : l.length + 1 ≤ maxLen := by simp only [maxLen]; omega
  have hon := ints_one l
  refine AWp_seqK fun K1 hK1 => ?_
  refine AWp_region ?_
  simp only [↓aops, ↓aop, ↓aWant, ↓aVal, bS, bA, AV.flat, AV.cl, AV.one, Value.oneCell', thenQ, blockQ, ↓reduceIte, Nat.reduceEqDiff, reduceCtorEq, tyX]
  refine hK1 _ ?_
  try clear hK1 K1
  refine AWp_joinZ [false, true, true, false, false, false, false, false, false, false, false, false, false, false, false, false, false, false, false, false, false, false, false, false, false, false, false, false, false, false, false, false, false, false, false, false, false, false] ([(1, .sl 1 ((if T.k = 1 then addV l T.n else l).map intC))]) [(0, .cells 32 [.v (.int .i64 T.k), .v (.int .i64 T.n), .sl 3 (T.ps.map Ty.cells)])] 1 (True) ?_ (fun hC => ?_)
  · skip
    refine AWp_seqK fun K2 hK2 => ?_
    refine AWp_region ?_
    refine aops_chunk 4 fun C3 hC3 => ?_
    simp only [bL, ↓aops, ↓aop, ↓aWant, ↓aVal, bS, bA, AV.flat, AV.cl, AV.one, Value.oneCell', thenQ, blockQ, ↓reduceIte, Nat.reduceEqDiff, reduceCtorEq, aField, fo32_0, Nat.reduceAdd, aLoad, ti3, getO, pack, Nat.reduceLeDiff, aBin, tyX]
    refine hC3 _ ?_
    try clear hC3 C3
    simp only [bL]
    refine aops_case 9 rfl (fun hc9 => ?_) (fun hc9 => ?_)
    · simp only [List.set_cons_zero, List.set_cons_succ]
      refine aops_chunk 3 fun C4 hC4 => ?_
      simp only [bL, ↓aops, ↓aop, ↓aWant, ↓aVal, bS, bA, AV.flat, AV.cl, AV.one, Value.oneCell', thenQ, blockQ, ↓reduceIte, Nat.reduceEqDiff, reduceCtorEq, undef, aField, fo32_1, Nat.reduceAdd, aLoad, ti3, getO, pack, Nat.reduceLeDiff, tyX]
      refine hC4 _ ?_
      try clear hC4 C4
      simp only [bL]
      refine aops_chunk 1 fun C5 hC5 => ?_
      simp only [bL, ↓aops, ↓aop, ↓aWant, ↓aVal, bS, bA, AV.flat, AV.cl, AV.one, Value.oneCell', thenQ, blockQ, ↓reduceIte, Nat.reduceEqDiff, reduceCtorEq, undef, aCallV, tyX]
      refine APure.call (In_pure l T.n) ?_
      try simp only [bS, bA, thenQ, blockQ]
      refine hC5 _ ?_
      try clear hC5 C5
      simp only [bL]
      simp only [↓aops, ↓aop, ↓aWant, ↓aVal, bS, bA, AV.flat, AV.cl, AV.one, Value.oneCell', thenQ, blockQ, ↓reduceIte, Nat.reduceEqDiff, reduceCtorEq, bL, undef, aUn, aBool, tyX]
      refine hK2 _ ?_
      try clear hK2 K2
      refine AWp_cond rfl (fun hb15 => ?_) (fun hb15 => ?_)
      · skip
        refine AAny_start [(0, 1, [.v (.int .i64 T.n)])] 8 rfl mixed (⟨⟨_, _, rfl, by simp, rfl⟩, trivial⟩) rfl ?_
        dsimp only
        refine AAny_takeK 1 rfl (by kernel_rfl) (by kernel_rfl) (by kernel_rfl) (fun _ _ h => h) fun K6 hK6 => ?_
        simp only [aQuiet, aHeldLoad, ↓aops, ↓aop, ↓aWant, ↓aVal, bS, bA, AV.flat, AV.cl, AV.one, Value.oneCell', thenQ, blockQ, ↓reduceIte, Nat.reduceEqDiff, reduceCtorEq, tyX, hb1, hb2, hb3, hb4, hon, List.length_map, bL]
        refine hK6 _ ?_
        try clear hK6 K6
        refine AAny_takeK 3 rfl (by kernel_rfl) (by kernel_rfl) (by kernel_rfl) (fun _ _ h => h) fun K7 hK7 => ?_
        simp only [aQuiet, aHeldLoad, ↓aops, ↓aop, ↓aWant, ↓aVal, bS, bA, AV.flat, AV.cl, AV.one, Value.oneCell', thenQ, blockQ, ↓reduceIte, Nat.reduceEqDiff, reduceCtorEq, aField, fo32_1, bL, Nat.reduceAdd, tyX, hb1, hb2, hb3, hb4, hon, List.length_map]
        refine hK7 _ ?_
        try clear hK7 K7
        refine AAny_loadK 4 0 rfl rfl (by kernel_rfl) (by kernel_rfl) (by kernel_rfl) (fun _ _ h => h) fun K8 hK8 => ?_
        simp only [aQuiet, aHeldLoad, ↓aops, ↓aop, ↓aWant, ↓aVal, bS, bA, AV.flat, AV.cl, AV.one, Value.oneCell', thenQ, blockQ, ↓reduceIte, Nat.reduceEqDiff, reduceCtorEq, aLoad, ti3, getO, pack, bL, Nat.reduceAdd, Nat.reduceLeDiff, tyX, hb1, hb2, hb3, hb4, hon, List.length_map]
        refine hK8 _ ?_
        try clear hK8 K8
        refine AAny_all2 (i := 0) (j := 5) (by kernel_rfl) ?_ ?_
        · skip
          refine aAt_op rfl rfl fun K9 hK9 => ?_
          simp only [↓aops, ↓aop, ↓aWant, ↓aVal, bS, bA, AV.flat, AV.cl, AV.one, Value.oneCell', thenQ, blockQ, ↓reduceIte, Nat.reduceEqDiff, reduceCtorEq, ↓bs0_1, ↓bs0_2, ↓bs0_3, ↓bs0_4, ↓bs0_5, ↓bs0_6, ↓bs0_7, ↓bs0_8, ↓bs0_9, ↓bs0_10, ↓bs0_11, ↓bs0_12, aBuildSl, ei28, bL, List.range_succ, List.range_zero, List.forall_mem_cons, List.not_mem_nil, false_imp_iff, implies_true, Nat.reduceAdd, Nat.reduceLeDiff, forall_eq, List.mem_singleton, tyX, hb1, hb2, hb3, hb4, hon, List.length_map]
          refine hK9 _ ⟨⟨⟨_, _, rfl, by simp, rfl⟩, trivial⟩, ?_⟩
          try clear hK9 K9
          refine AAny_all2 (i := 2) (j := 5) (by kernel_rfl) ?_ ?_
          · skip
            refine aAt_op rfl rfl fun K10 hK10 => ?_
            simp only [↓aops, ↓aop, ↓aWant, ↓aVal, bS, bA, AV.flat, AV.cl, AV.one, Value.oneCell', thenQ, blockQ, ↓reduceIte, Nat.reduceEqDiff, reduceCtorEq, aAppend, ei28, slOf, List.length_map, getO, putO, bL, Nat.reduceAdd, tyX, hb1, hb2, hb3, hb4, hon]
            refine hK10 _ ⟨⟨⟨_, _, rfl, by simp, rfl⟩, trivial⟩, ?_⟩
            try clear hK10 K10
            refine AAny_all1 (i := 5) (by kernel_rfl) ?_
            · skip
              refine aAt_op rfl rfl fun K11 hK11 => ?_
              simp only [↓aops, ↓aop, ↓aWant, ↓aVal, bS, bA, AV.flat, AV.cl, AV.one, Value.oneCell', thenQ, blockQ, ↓reduceIte, Nat.reduceEqDiff, reduceCtorEq, ↓bs1_1, ↓bs1_2, ↓bs1_3, ↓bs1_4, ↓bs1_5, ↓bs1_6, ↓bs1_7, ↓bs1_8, ↓bs1_9, ↓bs1_10, ↓bs1_11, ↓bs1_12, aBuildSl, ei28, bL, List.range_succ, List.range_zero, List.forall_mem_cons, List.not_mem_nil, false_imp_iff, implies_true, Nat.reduceAdd, Nat.reduceLeDiff, forall_eq, List.mem_singleton, tyX, hb1, hb2, hb3, hb4, hon, List.length_map]
              refine hK11 _ ⟨⟨⟨_, _, rfl, by simp, rfl⟩, trivial⟩, ?_⟩
              try clear hK11 K11
              refine AAny_all1 (i := 6) (by kernel_rfl) ?_
              · skip
                refine aAt_op rfl rfl fun K12 hK12 => ?_
                simp only [↓aops, ↓aop, ↓aWant, ↓aVal, bS, bA, AV.flat, AV.cl, AV.one, Value.oneCell', thenQ, blockQ, ↓reduceIte, Nat.reduceEqDiff, reduceCtorEq, aAppend, ei28, slOf, List.length_map, getO, putO, bL, Nat.reduceAdd, tyX, hb1, hb2, hb3, hb4, hon]
                refine hK12 _ ⟨⟨⟨_, _, rfl, by simp, rfl⟩, trivial⟩, ?_⟩
                try clear hK12 K12
                refine AAny_takeK 7 rfl (by kernel_rfl) (by kernel_rfl) (by kernel_rfl) (fun _ _ h => h) fun K13 hK13 => ?_
                simp only [aQuiet, aHeldLoad, ↓aops, ↓aop, ↓aWant, ↓aVal, bS, bA, AV.flat, AV.cl, AV.one, Value.oneCell', thenQ, blockQ, ↓reduceIte, Nat.reduceEqDiff, reduceCtorEq, tyX, hb1, hb2, hb3, hb4, hon, List.length_map, bL]
                refine hK13 _ ?_
                try clear hK13 K13
                refine AAny_done (by kernel_rfl) ?_
                simp only [thenQ, blockQ]
                simp only [maskL, setsL, putsO, putO, bA, Nat.reduceEqDiff, ↓reduceIte]
                first | refine ⟨trivial, ?_⟩ | skip
                have h9 := addV_cases T.k T.n l
                first | (have h9 := h9.1 (by simpa using hc9) (by simpa using hb15); rw [h9]) | (have h9 := h9.2.1 (by simpa using hb15); rw [h9]) | (have h9 := h9.2.2 (by simpa using hc9); rw [h9])
                first | (refine Weak.drops 0 1 rfl rfl (by simp only; omega) (by simp only; omega) ?_ ?_ ?_) | (refine Weak.drops 1 1 rfl rfl (by simp only; omega) (by simp only; omega) ?_ ?_ ?_)
                · simp only [LeL, Le.refl, Le.any, Le.oslL, List.map_append, List.map_cons, List.map_nil, and_self]
                · simp only [UndL, Und.any, Und.v, Und.ptr, und_ints, Nat.zero_lt_succ, Nat.reduceLT, and_self]
                · simp only [UndOs, Ob.Und, UndL, Und.v, Und.tys, Nat.zero_lt_succ, Nat.reduceLT, and_self]
          · skip
            refine aAt_op rfl rfl fun K14 hK14 => ?_
            simp only [↓aops, ↓aop, ↓aWant, ↓aVal, bS, bA, AV.flat, AV.cl, AV.one, Value.oneCell', thenQ, blockQ, ↓reduceIte, Nat.reduceEqDiff, reduceCtorEq, ↓bs1_1, ↓bs1_2, ↓bs1_3, ↓bs1_4, ↓bs1_5, ↓bs1_6, ↓bs1_7, ↓bs1_8, ↓bs1_9, ↓bs1_10, ↓bs1_11, ↓bs1_12, aBuildSl, ei28, bL, List.range_succ, List.range_zero, List.forall_mem_cons, List.not_mem_nil, false_imp_iff, implies_true, Nat.reduceAdd, Nat.reduceLeDiff, forall_eq, List.mem_singleton, tyX, hb1, hb2, hb3, hb4, hon, List.length_map]
            refine hK14 _ ⟨⟨⟨_, _, rfl, by simp, rfl⟩, trivial⟩, ?_⟩
            try clear hK14 K14
            refine AAny_all1 (i := 2) (by kernel_rfl) ?_
            · skip
              refine aAt_op rfl rfl fun K15 hK15 => ?_
              simp only [↓aops, ↓aop, ↓aWant, ↓aVal, bS, bA, AV.flat, AV.cl, AV.one, Value.oneCell', thenQ, blockQ, ↓reduceIte, Nat.reduceEqDiff, reduceCtorEq, aAppend, ei28, slOf, List.length_map, getO, putO, bL, Nat.reduceAdd, tyX, hb1, hb2, hb3, hb4, hon]
              refine hK15 _ ⟨⟨⟨_, _, rfl, by simp, rfl⟩, trivial⟩, ?_⟩
              try clear hK15 K15
              refine AAny_all1 (i := 6) (by kernel_rfl) ?_
              · skip
                refine aAt_op rfl rfl fun K16 hK16 => ?_
                simp only [↓aops, ↓aop, ↓aWant, ↓aVal, bS, bA, AV.flat, AV.cl, AV.one, Value.oneCell', thenQ, blockQ, ↓reduceIte, Nat.reduceEqDiff, reduceCtorEq, aAppend, ei28, slOf, List.length_map, getO, putO, bL, Nat.reduceAdd, tyX, hb1, hb2, hb3, hb4, hon]
                refine hK16 _ ⟨⟨⟨_, _, rfl, by simp, rfl⟩, trivial⟩, ?_⟩
                try clear hK16 K16
                refine AAny_takeK 7 rfl (by kernel_rfl) (by kernel_rfl) (by kernel_rfl) (fun _ _ h => h) fun K17 hK17 => ?_
                simp only [aQuiet, aHeldLoad, ↓aops, ↓aop, ↓aWant, ↓aVal, bS, bA, AV.flat, AV.cl, AV.one, Value.oneCell', thenQ, blockQ, ↓reduceIte, Nat.reduceEqDiff, reduceCtorEq, tyX, hb1, hb2, hb3, hb4, hon, List.length_map, bL]
                refine hK17 _ ?_
                try clear hK17 K17
                refine AAny_done (by kernel_rfl) ?_
                simp only [thenQ, blockQ]
                simp only [maskL, setsL, putsO, putO, bA, Nat.reduceEqDiff, ↓reduceIte]
                first | refine ⟨trivial, ?_⟩ | skip
                have h9 := addV_cases T.k T.n l
                first | (have h9 := h9.1 (by simpa using hc9) (by simpa using hb15); rw [h9]) | (have h9 := h9.2.1 (by simpa using hb15); rw [h9]) | (have h9 := h9.2.2 (by simpa using hc9); rw [h9])
                first | (refine Weak.drops 0 1 rfl rfl (by simp only; omega) (by simp only; omega) ?_ ?_ ?_) | (refine Weak.drops 1 1 rfl rfl (by simp only; omega) (by simp only; omega) ?_ ?_ ?_)
                · simp only [LeL, Le.refl, Le.any, Le.oslL, List.map_append, List.map_cons, List.map_nil, and_self]
                · simp only [UndL, Und.any, Und.v, Und.ptr, und_ints, Nat.zero_lt_succ, Nat.reduceLT, and_self]
                · simp only [UndOs, Ob.Und, UndL, Und.v, Und.tys, Nat.zero_lt_succ, Nat.reduceLT, and_self]
        · skip
          refine aAt_op rfl rfl fun K18 hK18 => ?_
          simp only [↓aops, ↓aop, ↓aWant, ↓aVal, bS, bA, AV.flat, AV.cl, AV.one, Value.oneCell', thenQ, blockQ, ↓reduceIte, Nat.reduceEqDiff, reduceCtorEq, ↓bs1_1, ↓bs1_2, ↓bs1_3, ↓bs1_4, ↓bs1_5, ↓bs1_6, ↓bs1_7, ↓bs1_8, ↓bs1_9, ↓bs1_10, ↓bs1_11, ↓bs1_12, aBuildSl, ei28, bL, List.range_succ, List.range_zero, List.forall_mem_cons, List.not_mem_nil, false_imp_iff, implies_true, Nat.reduceAdd, Nat.reduceLeDiff, forall_eq, List.mem_singleton, tyX, hb1, hb2, hb3, hb4, hon, List.length_map]
          refine hK18 _ ⟨⟨⟨_, _, rfl, by simp, rfl⟩, trivial⟩, ?_⟩
          try clear hK18 K18
          refine AAny_all1 (i := 0) (by kernel_rfl) ?_
          · skip
            refine aAt_op rfl rfl fun K19 hK19 => ?_
            simp only [↓aops, ↓aop, ↓aWant, ↓aVal, bS, bA, AV.flat, AV.cl, AV.one, Value.oneCell', thenQ, blockQ, ↓reduceIte, Nat.reduceEqDiff, reduceCtorEq, ↓bs0_1, ↓bs0_2, ↓bs0_3, ↓bs0_4, ↓bs0_5, ↓bs0_6, ↓bs0_7, ↓bs0_8, ↓bs0_9, ↓bs0_10, ↓bs0_11, ↓bs0_12, aBuildSl, ei28, bL, List.range_succ, List.range_zero, List.forall_mem_cons, List.not_mem_nil, false_imp_iff, implies_true, Nat.reduceAdd, Nat.reduceLeDiff, forall_eq, List.mem_singleton, tyX, hb1, hb2, hb3, hb4, hon, List.length_map]
            refine hK19 _ ⟨⟨⟨_, _, rfl, by simp, rfl⟩, trivial⟩, ?_⟩
            try clear hK19 K19
            refine AAny_all1 (i := 2) (by kernel_rfl) ?_
            · skip
              refine aAt_op rfl rfl fun K20 hK20 => ?_
              simp only [↓aops, ↓aop, ↓aWant, ↓aVal, bS, bA, AV.flat, AV.cl, AV.one, Value.oneCell', thenQ, blockQ, ↓reduceIte, Nat.reduceEqDiff, reduceCtorEq, aAppend, ei28, slOf, List.length_map, getO, putO, bL, Nat.reduceAdd, tyX, hb1, hb2, hb3, hb4, hon]
              refine hK20 _ ⟨⟨⟨_, _, rfl, by simp, rfl⟩, trivial⟩, ?_⟩
              try clear hK20 K20
              refine AAny_all1 (i := 6) (by kernel_rfl) ?_
              · skip
                refine aAt_op rfl rfl fun K21 hK21 => ?_
                simp only [↓aops, ↓aop, ↓aWant, ↓aVal, bS, bA, AV.flat, AV.cl, AV.one, Value.oneCell', thenQ, blockQ, ↓reduceIte, Nat.reduceEqDiff, reduceCtorEq, aAppend, ei28, slOf, List.length_map, getO, putO, bL, Nat.reduceAdd, tyX, hb1, hb2, hb3, hb4, hon]
                refine hK21 _ ⟨⟨⟨_, _, rfl, by simp, rfl⟩, trivial⟩, ?_⟩
                try clear hK21 K21
                refine AAny_takeK 7 rfl (by kernel_rfl) (by kernel_rfl) (by kernel_rfl) (fun _ _ h => h) fun K22 hK22 => ?_
                simp only [aQuiet, aHeldLoad, ↓aops, ↓aop, ↓aWant, ↓aVal, bS, bA, AV.flat, AV.cl, AV.one, Value.oneCell', thenQ, blockQ, ↓reduceIte, Nat.reduceEqDiff, reduceCtorEq, tyX, hb1, hb2, hb3, hb4, hon, List.length_map, bL]
                refine hK22 _ ?_
                try clear hK22 K22
                refine AAny_done (by kernel_rfl) ?_
                simp only [thenQ, blockQ]
                simp only [maskL, setsL, putsO, putO, bA, Nat.reduceEqDiff, ↓reduceIte]
                first | refine ⟨trivial, ?_⟩ | skip
                have h9 := addV_cases T.k T.n l
                first | (have h9 := h9.1 (by simpa using hc9) (by simpa using hb15); rw [h9]) | (have h9 := h9.2.1 (by simpa using hb15); rw [h9]) | (have h9 := h9.2.2 (by simpa using hc9); rw [h9])
                first | (refine Weak.drops 0 1 rfl rfl (by simp only; omega) (by simp only; omega) ?_ ?_ ?_) | (refine Weak.drops 1 1 rfl rfl (by simp only; omega) (by simp only; omega) ?_ ?_ ?_)
                · simp only [LeL, Le.refl, Le.any, Le.oslL, List.map_append, List.map_cons, List.map_nil, and_self]
                · simp only [UndL, Und.any, Und.v, Und.ptr, und_ints, Nat.zero_lt_succ, Nat.reduceLT, and_self]
                · simp only [UndOs, Ob.Und, UndL, Und.v, Und.tys, Nat.zero_lt_succ, Nat.reduceLT, and_self]
      · skip
        refine AWp_skip ?_
        simp only [thenQ, blockQ]
        simp only [maskL, setsL, putsO, putO, bA, Nat.reduceEqDiff, ↓reduceIte]
        first | refine ⟨trivial, ?_⟩ | skip
        have h9 := addV_cases T.k T.n l
        first | (have h9 := h9.1 (by simpa using hc9) (by simpa using hb15); rw [h9]) | (have h9 := h9.2.1 (by simpa using hb15); rw [h9]) | (have h9 := h9.2.2 (by simpa using hc9); rw [h9])
        first | (refine Weak.drops 0 1 rfl rfl (by simp only; omega) (by simp only; omega) ?_ ?_ ?_) | (refine Weak.drops 1 1 rfl rfl (by simp only; omega) (by simp only; omega) ?_ ?_ ?_)
        · simp only [LeL, Le.refl, Le.any, Le.oslL, List.map_append, List.map_cons, List.map_nil, and_self]
        · simp only [UndL, Und.any, Und.v, Und.ptr, und_ints, Nat.zero_lt_succ, Nat.reduceLT, and_self]
        · simp only [UndOs, Ob.Und, UndL, Und.v, Und.tys, Nat.zero_lt_succ, Nat.reduceLT, and_self]
    · simp only [List.set_cons_zero, List.set_cons_succ]
      refine aops_chunk 4 fun C23 hC23 => ?_
      simp only [bL, ↓aops, ↓aop, ↓aWant, ↓aVal, bS, bA, AV.flat, AV.cl, AV.one, Value.oneCell', thenQ, blockQ, ↓reduceIte, Nat.reduceEqDiff, reduceCtorEq, undef, aField, fo32_1, Nat.reduceAdd, aLoad, ti3, getO, pack, Nat.reduceLeDiff, aCallV, tyX]
      refine hC23 _ ?_
      try clear hC23 C23
      simp only [bL]
      simp only [↓aops, ↓aop, ↓aWant, ↓aVal, bS, bA, AV.flat, AV.cl, AV.one, Value.oneCell', thenQ, blockQ, ↓reduceIte, Nat.reduceEqDiff, reduceCtorEq, bL, undef, aUn, aBool, tyX]
      refine hK2 _ ?_
      try clear hK2 K2
      refine AWp_cond (b := false) (by first | exact rfl | exact congrArg (fun b => AV.v (.bool b)) hb15) (fun h => (by cases h)) (fun _ => ?_)
      refine AWp_skip ?_
      simp only [thenQ, blockQ]
      simp only [maskL, setsL, putsO, putO, bA, Nat.reduceEqDiff, ↓reduceIte]
      first | refine ⟨trivial, ?_⟩ | skip
      have h9 := addV_cases T.k T.n l
      first | (have h9 := h9.1 (by simpa using hc9) (by simpa using hb15); rw [h9]) | (have h9 := h9.2.1 (by simpa using hb15); rw [h9]) | (have h9 := h9.2.2 (by simpa using hc9); rw [h9])
      first | (refine Weak.drops 0 1 rfl rfl (by simp only; omega) (by simp only; omega) ?_ ?_ ?_) | (refine Weak.drops 1 1 rfl rfl (by simp only; omega) (by simp only; omega) ?_ ?_ ?_)
      · simp only [LeL, Le.refl, Le.any, Le.oslL, List.map_append, List.map_cons, List.map_nil, and_self]
      · simp only [UndL, Und.any, Und.v, Und.ptr, und_ints, Nat.zero_lt_succ, Nat.reduceLT, and_self]
      · simp only [UndOs, Ob.Und, UndL, Und.v, Und.tys, Nat.zero_lt_succ, Nat.reduceLT, and_self]
  simp only [maskL, setsL, putsO, putO, bA, Nat.reduceEqDiff, ↓reduceIte]
  refine AWp_seqK fun K24 hK24 => ?_
  refine AWp_seqK fun K25 hK25 => ?_
  refine AWp_region ?_
  simp only [↓aops, ↓aop, ↓aWant, ↓aVal, bS, bA, AV.flat, AV.cl, AV.one, Value.oneCell', thenQ, blockQ, ↓reduceIte, Nat.reduceEqDiff, reduceCtorEq, tyX]
  refine hK25 _ ?_
  try clear hK25 K25
  refine AWp_block ?_
  refine AWp_loopM (σ := Nat) [false, true, true, false, false, true, false, false, false, false, false, false, false, false, false, false, false, false, false, false, false, false, false, false, false, false, false, false, false, false, false, false, false, false, false, false, false, false] (fun s => s ≤ T.ps.length) (fun s => [(1, .sl 1 ((Ty.rvarsL (T.ps.take s) (if T.k = 1 then addV l T.n else l)).map intC)), (5, .v (.int .i64 (s : Int)))]) (fun s => []) (fun s => T.ps.length - s) 0 (by omega) ?_ (fun s hs => ?_)
  · skip
    simp only [maskL, setsL, putsO, putO, bA, Nat.reduceEqDiff, ↓reduceIte, bL, Ty.rvarsL]
    exact Weak.mk (by simp only [LeL, Le.refl, Le.any, Le.slNil, and_self, Int.natCast_add, Int.cast_ofNat_Int, Int.natCast_one]) (fun _ _ h => h) rfl rfl
  simp only [maskL, setsL, putsO, putO, bA, Nat.reduceEqDiff, ↓reduceIte]
  refine AWp_seqK fun K26 hK26 => ?_
  refine AWp_seqK fun K27 hK27 => ?_
  refine AWp_region ?_
  refine aops_chunk 4 fun C28 hC28 => ?_
  simp only [bL, ↓aops, ↓aop, ↓aWant, ↓aVal, bS, bA, AV.flat, AV.cl, AV.one, Value.oneCell', thenQ, blockQ, ↓reduceIte, Nat.reduceEqDiff, reduceCtorEq, aField, fo32_2, Nat.reduceAdd, aLoad, ti22, getO, pack, Nat.reduceLeDiff, aLen, ln22, List.length_map, tyX]
  refine hC28 _ ?_
  try clear hC28 C28
  simp only [bL]
  simp only [↓aops, ↓aop, ↓aWant, ↓aVal, bS, bA, AV.flat, AV.cl, AV.one, Value.oneCell', thenQ, blockQ, ↓reduceIte, Nat.reduceEqDiff, reduceCtorEq, aBin, tyX]
  refine hK27 _ ?_
  try clear hK27 K27
  refine AWp_cond rfl (fun hb27 => ?_) (fun hb27 => ?_)
  · skip
    have hk : s < T.ps.length := by simpa using hb27
    obtain ⟨p, hp⟩ : ∃ p, T.ps[s]? = some p := ⟨_, List.getElem?_eq_getElem hk⟩
    have hpc := Ty.cntL_step hp
    have hvl := Ty.rvarsL_len (T.ps.take s) (if T.k = 1 then addV l T.n else l)
    have hw : IntKind.i64.wrap ((s : Int) + 1) = (s : Int) + 1 := wrap_in (by omega) (by omega)
    refine AWp_skip ?_
    simp only [thenQ, blockQ]
    refine hK26 _ ?_
    try clear hK26 K26
    refine AWp_seqK fun K29 hK29 => ?_
    refine AWp_block ?_
    refine AWp_region ?_
    refine aops_chunk 4 fun C30 hC30 => ?_
    simp only [bL, ↓aops, ↓aop, ↓aWant, ↓aVal, bS, bA, AV.flat, AV.cl, AV.one, Value.oneCell', thenQ, blockQ, ↓reduceIte, Nat.reduceEqDiff, reduceCtorEq, aField, fo32_2, Nat.reduceAdd, aLoad, ti22, getO, pack, Nat.reduceLeDiff, aIndexA, es22, Int.natCast_nonneg, Int.ofNat_lt, Int.toNat_natCast, List.length_map, Int.le_refl, Int.toNat_zero, Int.toNat_one, Int.reduceLE, tyX, hk, getD_map_cells hp, Int.natCast_add, Int.natCast_one, hw, Ty.rvarsL_step hp]
    refine hC30 _ ?_
    try clear hC30 C30
    simp only [bL]
    refine aops_chunk 2 fun C31 hC31 => ?_
    simp only [bL, ↓aops, ↓aop, ↓aWant, ↓aVal, bS, bA, AV.flat, AV.cl, AV.one, Value.oneCell', thenQ, blockQ, ↓reduceIte, Nat.reduceEqDiff, reduceCtorEq, aLoad, ti32, getO, pack, Nat.reduceAdd, Nat.reduceLeDiff, tyX, hk, getD_map_cells hp, Int.natCast_add, Int.natCast_one, hw, Ty.rvarsL_step hp]
    refine hC31 _ ?_
    try clear hC31 C31
    simp only [bL]
    refine aops_chunk 1 fun C32 hC32 => ?_
    simp only [bL, ↓aops, ↓aop, ↓aWant, ↓aVal, bS, bA, AV.flat, AV.cl, AV.one, Value.oneCell', thenQ, blockQ, ↓reduceIte, Nat.reduceEqDiff, reduceCtorEq, aCallV, tyX, hk, getD_map_cells hp, Int.natCast_add, Int.natCast_one, hw, Ty.rvarsL_step hp]
    refine APure.call (ih p (List.mem_of_getElem? hp) (Ty.rvarsL (T.ps.take s) (if T.k = 1 then addV l T.n else l)) (by omega)) ?_
    try simp only [bS, bA, thenQ, blockQ]
    refine hC32 _ ?_
    try clear hC32 C32
    simp only [bL]
    simp only [↓aops, ↓aop, ↓aWant, ↓aVal, bS, bA, AV.flat, AV.cl, AV.one, Value.oneCell', thenQ, blockQ, ↓reduceIte, Nat.reduceEqDiff, reduceCtorEq, tyX, hk, getD_map_cells hp, Int.natCast_add, Int.natCast_one, hw, Ty.rvarsL_step hp]
    refine hK29 _ ?_
    try clear hK29 K29
    refine AWp_region ?_
    simp only [↓aops, ↓aop, ↓aWant, ↓aVal, bS, bA, AV.flat, AV.cl, AV.one, Value.oneCell', thenQ, blockQ, ↓reduceIte, Nat.reduceEqDiff, reduceCtorEq, aBin, tyX, hk, getD_map_cells hp, Int.natCast_add, Int.natCast_one, hw, Ty.rvarsL_step hp]
    refine ⟨(s + 1), (by omega), by omega, ?_⟩
    simp only [maskL, setsL, putsO, putO, bA, Nat.reduceEqDiff, ↓reduceIte, hk, getD_map_cells hp, Int.natCast_add, Int.natCast_one, hw, Ty.rvarsL_step hp]
    exact Weak.mk (by simp only [LeL, Le.refl, Le.any, Le.slNil, and_self, Int.natCast_add, Int.cast_ofNat_Int, Int.natCast_one]) (fun _ _ h => h) rfl rfl
  · skip
    have hk : s = T.ps.length := by simp at hb27; omega
    refine AWp_exit ?_
    simp only [thenQ, blockQ, bA, Nat.reduceEqDiff, ↓reduceIte]
    refine hK24 _ ?_
    try clear hK24 K24
    refine AWp_seqK fun K33 hK33 => ?_
    refine AWp_region ?_
    simp only [↓aops, ↓aop, ↓aWant, ↓aVal, bS, bA, AV.flat, AV.cl, AV.one, Value.oneCell', thenQ, blockQ, ↓reduceIte, Nat.reduceEqDiff, reduceCtorEq, tyX]
    refine hK33 _ ?_
    try clear hK33 K33
    refine AWp_ret ?_
    simp only [thenQ, blockQ, retQ, aRes, tupOf, bS, bA]
    refine Le.of_eq ?_
    rw [Ty.rvars_eq, hk, List.take_length]
end Go.Proofs.Ytohdoloalolpfaa
