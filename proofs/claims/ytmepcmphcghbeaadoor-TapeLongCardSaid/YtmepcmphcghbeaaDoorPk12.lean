/- Texts of the abstract walk, of the contracts and of the plain laws, packed (part 12 of 48): Ab10. Conditions: none. -/
import Derived.Test.YtmepcmphcghbeaaDoorPk11
import Derived.StillTail
namespace Go.Proofs.YtmepcmphcghbeaaDoor
open Go Go.RowKit
set_option linter.unnecessarySimpa false
def evG (get : Nat → AV) : Operand → AV
  | .tmp t => get t
  | .const v => .v v
  | .func f => .clo f []
  | .global g => glEv g
theorem evG_get (st : St) : evG st.get = st.ev := by funext y; cases y <;> rfl
def OpF (P : Program) (os : Os) (o : Oper) (ev : Operand → AV) (id : Nat) (x : AV) (ob : Option Ob) : Prop :=
  match o.op with
  | .alloc t => ∃ z, zeroC P t = some z ∧ x = .ptr id 0 ∧ ob = some (.cells t (z.map .v))
  | .makeMap _ none => x = .map id ∧ ob = some (.map [])
  | .buildSlice t n parts => ∃ e sz b, elemInf P t = some (e, sz, b) ∧ n * sz ≤ 2 ^ 24 ∧ parts.toList.map (·.1) = List.range n ∧
      if n = 0 then x = .osl id sz [] ∧ ob = some (.tok e sz 0)
      else (∀ p ∈ parts.toList, (ev p.2).flat = true ∧ (ev p.2).cl.length = sz) ∧ x = .sl sz (parts.toList.map fun p => (ev p.2).cl) ∧ ob = none
  | .call { callee := .value f, args := args, argTypes := _ } => ob = none ∧ ∃ g caps, ev f = .clo g caps ∧ APure P g (args.toList.map ev ++ caps) x
  | _ => ob = none ∧ aVal P o ev os (fun y => y = x)
def dOp (P : Program) (os : Os) (o : Oper) (st : St) (K : St → Prop) : Prop :=
  match o.op with
  | .alloc t => match zeroC P t with | some z => K ((st.new (.cells t (z.map .v))).put o.dst (.ptr st.nx 0)) | none => False
  | .makeMap _ none => K ((st.new (.map [])).put o.dst (.map st.nx))
  | .buildSlice t n parts =>
    match elemInf P t with
    | some (e, sz, _) => n * sz ≤ 2 ^ 24 ∧ parts.toList.map (·.1) = List.range n ∧
      if n = 0 then K ((st.new (.tok e sz 0)).put o.dst (.osl st.nx sz []))
      else (∀ p ∈ parts.toList, (st.ev p.2).flat = true ∧ (st.ev p.2).cl.length = sz) ∧ K (st.put o.dst (.sl sz (parts.toList.map fun p => (st.ev p.2).cl)))
    | none => False
  | .call { callee := .value f, args := args, argTypes := _ } =>
    match st.ev f with
    | .clo g caps => ∃ x, APure P g (args.toList.map st.ev ++ caps) x ∧ K (st.put o.dst x)
    | _ => False
  | _ => ∃ x, aVal P o st.ev os (fun y => y = x) ∧ K (st.put o.dst x)
def dRun (P : Program) (ops : List Oper) (os : Os) : List Oper → St → (St → Prop) → Prop
  | [], st, K => K st
  | o :: rest, st, K => aWant ops o st (dOp P os o st fun st' => dRun P ops os rest st' K) (dRun P ops os rest (st.put o.dst (.v undef)) K)
def St.upd (st : St) (o : Oper) (x : AV) : Option Ob → St
  | none => st.put o.dst x
  | some ob => (st.new ob).put o.dst x
theorem dOp_spec {P : Program} {os : Os} {o : Oper} {st : St} {K : St → Prop} (h : dOp P os o st K) : ∃ x ob, OpF P os o st.ev st.nx x ob ∧ K (st.upd o x ob) := by
  obtain ⟨dst, op, ty, pos, after, guard⟩ := o
  unfold dOp at h
  split at h
  · rename_i t heq; simp only at heq; subst heq
    split at h
    · rename_i z hz; exact ⟨_, _, ⟨z, hz, rfl, rfl⟩, h⟩
    · exact h.elim
  · rename_i t heq; simp only at heq; subst heq
    exact ⟨_, _, ⟨rfl, rfl⟩, h⟩
  · rename_i t n parts heq; simp only at heq; subst heq
    split at h
    case h_2 => exact h.elim
    rename_i e sz b he
    obtain ⟨h1, h2, h3⟩ := h
    by_cases hn : n = 0
    · rw [if_pos hn] at h3
      exact ⟨.osl st.nx sz [], some (.tok e sz 0), ⟨e, sz, b, he, h1, h2, by rw [if_pos hn]; exact ⟨rfl, rfl⟩⟩, h3⟩
    · rw [if_neg hn] at h3
      exact ⟨.sl sz (parts.toList.map fun (p : Nat × Operand) => (st.ev p.2).cl), none, ⟨e, sz, b, he, h1, h2, by rw [if_neg hn]; exact ⟨h3.1, rfl, rfl⟩⟩, h3.2⟩
  · rename_i f args tys heq; simp only at heq; subst heq
    split at h
    case h_2 => exact h.elim
    rename_i g caps hf
    obtain ⟨x, h1, h2⟩ := h
    exact ⟨x, none, ⟨rfl, g, caps, hf, h1⟩, h2⟩
  · rename_i h1 h2 h3 h4
    obtain ⟨x, h5, h6⟩ := h
    refine ⟨x, none, ?_, h6⟩
    unfold OpF
    split
    · rename_i heq; exact absurd heq (h1 _)
    · rename_i heq; exact absurd heq (h2 _)
    · rename_i heq; exact absurd heq (h3 _ _ _)
    · rename_i heq; exact absurd heq (h4 _ _ _)
    · exact ⟨rfl, h5⟩
def wantG (ops : List Oper) (o : Oper) (get : Nat → AV) (T F : Prop) : Prop :=
  match o.guard with
  | none => T
  | some (j, want) =>
    match ((ops[j]?).bind (·.dst)) with
    | none => F
    | some d => match get d with
      | .v (.bool b) => if b = want then T else F
      | .v (.tuple _) => F
      | _ => False
def OF (P : Program) (ops : List Oper) (os : Os) (o : Oper) (get : Nat → AV) (id : Nat) (x : AV) (ob : Option Ob) : Prop :=
  wantG ops o get (OpF P os o (evG get) id x ob) (x = .v undef ∧ ob = none)
def Facts (P : Program) (ops : List Oper) (os : Os) : List Oper → List (AV × Option Ob) → St → St → Prop
  | [], [], st, stF => stF = st
  | o :: rest, (x, ob) :: X, st, stF => OF P ops os o st.get st.nx x ob ∧ Facts P ops os rest X (st.upd o x ob) stF
  | _, _, _, _ => False
theorem dRun_facts {P : Program} {ops : List Oper} {os : Os} {K : St → Prop} : ∀ (l : List Oper) (st : St), dRun P ops os l st K → ∃ X stF, Facts P ops os l X st stF ∧ K stF
  | [], st, h => ⟨[], st, rfl, h⟩
  | o :: rest, st, h => by
    have key : (dOp P os o st fun st' => dRun P ops os rest st' K) → ∃ x ob X stF, OpF P os o (evG st.get) st.nx x ob ∧ Facts P ops os rest X (st.upd o x ob) stF ∧ K stF := fun h => by
      obtain ⟨x, ob, h1, h2⟩ := dOp_spec h
      obtain ⟨X, stF, h3, h4⟩ := dRun_facts rest _ h2
      exact ⟨x, ob, X, stF, by rw [evG_get]; exact h1, h3, h4⟩
    have key2 : dRun P ops os rest (st.put o.dst (.v undef)) K → ∃ X stF, Facts P ops os rest X (st.upd o (.v undef) none) stF ∧ K stF := fun h => dRun_facts rest _ h
    have T : ∀ {x ob}, OpF P os o (evG st.get) st.nx x ob → wantG ops o st.get True False → OF P ops os o st.get st.nx x ob := by
      intro x ob h1 h2
      unfold OF wantG at *
      split
      · exact h1
      · rename_i j want hg
        rw [hg] at h2
        simp only at h2
        split
        · rename_i hd; rw [hd] at h2; exact h2.elim
        · rename_i d hd
          rw [hd] at h2
          simp only at h2
          split
          · rename_i b hb
            rw [hb] at h2
            simp only at h2
            split
            · exact h1
            · rename_i hne; rw [if_neg hne] at h2; exact h2.elim
          · rename_i vs hvs; rw [hvs] at h2; exact h2.elim
          · rename_i h3 h4
            split at h2
            · rename_i b hb; exact h3 b hb
            · exact h2.elim
            · exact h2.elim
    have F : wantG ops o st.get False True → OF P ops os o st.get st.nx (.v undef) none := by
      intro h2
      unfold OF wantG at *
      split
      · rename_i hg; rw [hg] at h2; exact h2.elim
      · rename_i j want hg
        rw [hg] at h2
        simp only at h2
        split
        · exact ⟨rfl, rfl⟩
        · rename_i d hd
          rw [hd] at h2
          simp only at h2
          split
          · rename_i b hb
            rw [hb] at h2
            simp only at h2
            split
            · rename_i he; rw [if_pos he] at h2; exact h2.elim
            · exact ⟨rfl, rfl⟩
          · exact ⟨rfl, rfl⟩
          · rename_i h3 h4
            split at h2
            · rename_i b hb; exact h3 b hb
            · rename_i vs hvs; exact h4 vs hvs
            · exact h2
    have split' : ∀ {T F : Prop}, aWant ops o st T F → (wantG ops o st.get True False ∧ T) ∨ (wantG ops o st.get False True ∧ F) := by
      intro T F h
      unfold aWant at h
      unfold wantG
      split at h
      · rename_i hg; rw [hg]; exact .inl ⟨trivial, h⟩
      · rename_i j want hg
        rw [hg]
        simp only
        split at h
        · rename_i hd; rw [hd]; exact .inr ⟨trivial, h⟩
        · rename_i d hd
          rw [hd]
          simp only
          split at h
          · rename_i b hb
            rw [hb]
            simp only
            split at h
            · rename_i he; rw [if_pos he, if_pos he]; exact .inl ⟨trivial, h⟩
            · rename_i he; rw [if_neg he, if_neg he]; exact .inr ⟨trivial, h⟩
          · rename_i vs hvs; rw [hvs]; exact .inr ⟨trivial, h⟩
          · exact h.elim
    simp only [dRun] at h
    rcases split' h with ⟨h1, h2⟩ | ⟨h1, h2⟩
    · obtain ⟨x, ob, X, stF, h3, h4, h5⟩ := key h2
      exact ⟨(x, ob) :: X, stF, ⟨T h3 h1, h4⟩, h5⟩
    · obtain ⟨X, stF, h4, h5⟩ := key2 h2
      exact ⟨(.v undef, none) :: X, stF, ⟨F h1, h4⟩, h5⟩
theorem OpF_congr {P : Program} {os : Os} {o : Oper} {ev ev' : Operand → AV} {id : Nat} {x : AV} {ob : Option Ob} (h : ∀ y ∈ o.op.operands, ev y = ev' y) (hk : OpF P os o ev id x ob) : OpF P os o ev' id x ob := by
  obtain ⟨dst, op, ty, pos, after, guard⟩ := o
  unfold OpF at hk ⊢
  split at hk
  · rename_i heq; simp only at heq; subst heq; exact hk
  · rename_i heq; simp only at heq; subst heq; exact hk
  · rename_i t n parts heq; simp only at heq; subst heq
    simp only at h ⊢
    have e : ∀ p ∈ parts.toList, ev p.2 = ev' p.2 := fun p hp => h p.2 (by simp only [Op.operands, List.mem_toArray]; exact List.mem_map.2 ⟨p, hp, rfl⟩)
    obtain ⟨e', sz, b, h1, h2, h3, h4⟩ := hk
    refine ⟨e', sz, b, h1, h2, h3, ?_⟩
    by_cases hn : n = 0
    · rw [if_pos hn] at h4 ⊢; exact h4
    · rw [if_neg hn] at h4 ⊢
      refine ⟨fun p hp => by rw [← e p hp]; exact h4.1 p hp, ?_, h4.2.2⟩
      rw [h4.2.1]
      congr 1
      exact List.map_congr_left fun p hp => by rw [e p hp]
  · rename_i f args tys heq; simp only at heq; subst heq
    simp only at h ⊢
    obtain ⟨h1, g, caps, h2, h3⟩ := hk
    refine ⟨h1, g, caps, by rw [← h f (by simp [Op.operands, Call.operands])]; exact h2, ?_⟩
    have e : args.toList.map ev' = args.toList.map ev := List.map_congr_left fun p hp => by rw [h p (by simp only [Op.operands, Call.operands, Array.mem_append]; exact .inr (by simpa using hp))]
    rw [e]; exact h3
  · exact ⟨hk.1, aVal_congr h hk.2⟩
theorem OF_congr {P : Program} {ops : List Oper} {os : Os} {o : Oper} {get get' : Nat → AV} {id : Nat} {x : AV} {ob : Option Ob} (h : ∀ t ∈ o.looksAt ops.toArray, get t = get' t) (hk : OF P ops os o get id x ob) : OF P ops os o get' id x ob := by
  have h1 : OpF P os o (evG get) id x ob → OpF P os o (evG get') id x ob := OpF_congr fun y hy => by
    cases y with
    | tmp t => exact h t (by simp only [Oper.looksAt, List.mem_append, List.mem_filterMap]; exact .inl ⟨.tmp t, by simpa using hy, rfl⟩)
    | _ => rfl
  unfold OF wantG at *
  split
  · rename_i hg; rw [hg] at hk; exact h1 hk
  · rename_i j want hg
    rw [hg] at hk
    simp only at hk
    split
    · rename_i hd; rw [hd] at hk; exact hk
    · rename_i d hd
      rw [hd] at hk
      simp only at hk
      have hdg : get d = get' d := h d (by
        simp only [Oper.looksAt, List.mem_append]
        refine .inr ?_
        rw [hg]
        simp only [List.getElem?_toArray, hd, Option.toList_some, List.mem_singleton])
      rw [hdg] at hk
      split
      · rename_i b hb
        rw [hb] at hk
        simp only at hk
        split
        · rename_i he; rw [if_pos he] at hk; exact h1 hk
        · rename_i he; rw [if_neg he] at hk; exact hk
      · rename_i vs hvs; rw [hvs] at hk; exact hk
      · rename_i h3 h4
        split at hk
        · rename_i b hb; exact h3 b hb
        · rename_i vs hvs; exact h4 vs hvs
        · exact hk
section
variable {P : Program} {A0 : Nat → Nat → Prop} {E : Env} {os : Os} {w : World}
theorem OpF_sound {o : Oper} {ev : Operand → AV} {ρ : Operand → Value} {osD : Os} {id : Nat} {x : AV} {ob : Option Ob} (hos : OsOk A0 E osD w) (hsub : ∀ id ob, getO os id = some ob → getO osD id = some ob)
    (hr : ∀ y ∈ o.op.operands, Rp E (AvX A0 E osD) w (ev y) (ρ y)) (h : OpF P os o ev id x ob) :
    (ob = none ∧ ((∃ v w', (execOp ρ o).run P w = .ok (.value v) w' ∧ Below w.heap.size w w' ∧ Rp E (AvX A0 E osD) w' x v) ∨
      ∃ g vs, (execOp ρ o).run P w = .ok (.enter g vs) w ∧ Calls P g vs w fun e w' => ∃ v, e = .returned v ∧ Below w.heap.size w w' ∧ Rp E (AvX A0 E osD) w' x v)) ∨
    ∃ b v w' B S C, ob = some b ∧ (execOp ρ o).run P w = .ok (.value v) w' ∧ Below w.heap.size w w' ∧ (∀ k, b.blk (E.add id B S C) id = some k → w.heap.size ≤ k) ∧
      (∀ A, b.ok (E.add id B S C) A w' id) ∧ ∀ A, Rp (E.add id B S C) A w' x v := by
  have val : ∀ (s : Sem Value) (v : Value) (w' : World), s.run P w = .ok v w' → ((do pure (.value (← s))) : Sem Next).run P w = .ok (.value v) w' := fun s v w' h => by
    simp only [Sem.run_bind, h, Result.andThen_ok, Sem.run_pure]
  obtain ⟨dst, op, ty, pos, after, guard⟩ := o
  have hfull := h
  unfold OpF at h
  split at h
  · rename_i t heq; simp only at heq; subst heq
    obtain ⟨z, hz, rfl, rfl⟩ := h
    unfold zeroC at hz
    cases hi : P.info? t with
    | none => simp [hi] at hz
    | some inf =>
      cases hzz : inf.zero with
      | none => simp [hi, hzz] at hz
      | some zv =>
        simp [hi, hzz] at hz
        subst hz
        have hrun : (Instr.alloc t true (.tuple #[])).run P w = .ok (.pointer (some ⟨w.heap.size, 0, none⟩)) (w.alloc (.cells zv.cells t)) := by
          simp [Instr.alloc, zeroValue, typeInfo, hi, hzz, newVar, newRow]
        refine .inr ⟨_, _, _, w.heap.size, undef, 0, rfl, by simp only [execOp]; exact val _ _ _ hrun, below_alloc w _, fun k hk => by simp [Ob.blk, Env.add] at hk; omega, fun A => ?_, fun A => ?_⟩
        · refine ⟨zv.cells, by simp only [Env.add, if_true]; exact heap_alloc_new w _, by simp, fun i c u hc hu => ?_⟩
          simp only [List.getElem?_map, Array.getElem?_toList, hu, Option.map_some, Option.some.injEq] at hc
          subst hc; exact .v _
        · have e1 : (⟨w.heap.size, 0, none⟩ : Addr) = ⟨(E.add id w.heap.size undef 0).blk id, 0, none⟩ := by simp [Env.add]
          rw [e1]; exact .ptr (.inr rfl)
  · rename_i t heq; simp only at heq; subst heq
    obtain ⟨rfl, rfl⟩ := h
    have hrun : (Instr.makeMap t none).run P w = .ok (.map (some w.heap.size)) (w.alloc (.map #[] 0)) := by simp [Instr.makeMap]
    refine .inr ⟨_, _, _, w.heap.size, undef, 0, rfl, by simp only [execOp, Option.map_none]; exact val _ _ _ hrun, below_alloc w _, fun k hk => by simp [Ob.blk, Env.add] at hk; omega, fun A => ?_, fun A => ?_⟩
    · exact ⟨#[], 0, by simp only [Env.add, if_true]; exact heap_alloc_new w _, rfl, (fun i p e hp _ => by simp at hp), MapKept.stamped_empty 0⟩
    · have e1 : (Value.map (some w.heap.size)) = .map (some ((E.add id w.heap.size undef 0).blk id)) := by simp [Env.add]
      rw [e1]; exact .map (.inr rfl)
  · rename_i t n parts heq; simp only at heq; subst heq
    obtain ⟨e, sz, bytes, he, hle, hord, h⟩ := h
    by_cases hn : n = 0
    · subst hn
      rw [if_pos rfl] at h
      obtain ⟨rfl, rfl⟩ := h
      obtain ⟨i, zv, ht, hi, hzero, rfl, rfl, hzs, hsz0⟩ := elemInf_spec he
      have hpe : parts = #[] := by
        have := congrArg List.length hord
        exact Array.eq_empty_of_size_eq_zero (by simpa using this)
      subst hpe
      have hrun : (Instr.buildSlice t 0 #[]).run P w = .ok (.slice (some ⟨w.heap.size, 0, none⟩) 0 0) (w.alloc (.cells #[] e)) := by
        have h0 : ∀ f : Nat → Value, Array.map f (Array.range 0) = #[] := fun f => Array.eq_empty_of_size_eq_zero (by simp)
        simp [Instr.buildSlice, run_underlying ht, sizeOf, typeInfo, hi, Instr.fill, newRow, h0]
      refine .inr ⟨_, _, _, 0, .slice (some ⟨w.heap.size, 0, none⟩) 0 0, 0, rfl, by simp only [execOp, Array.map_empty]; exact val _ _ _ hrun, below_alloc w _, fun k hk => by simp [Ob.blk, Env.add, Value.ownBlock] at hk; omega, fun A => ?_, fun A => ?_⟩
      · exact ⟨by simp [Env.add], .inr ⟨w.heap.size, 0, #[], by simp [Env.add], Nat.le_refl _, by simp [maxLen], heap_alloc_new w _, by simp, trivial⟩⟩
      · exact .osl (.inr rfl) (.sl0 (by simp [maxLen])) (by simp) (fun _ => by simp [Env.add])
    · rw [if_neg hn] at h
      obtain ⟨hall, rfl, rfl⟩ := h
      obtain ⟨z, w', _, h1, h2, h3, _⟩ := buildSl_sound (P := P) hos (ev := ev) (ρ := ρ) (fun p hp => hr p.2 (by simp only [Op.operands, List.mem_toArray]; exact List.mem_map.2 ⟨p, hp, rfl⟩)) he hle hord hn hall
      exact .inl ⟨rfl, .inl ⟨z, w', by simp only [execOp]; exact val _ _ _ h1, h2, h3⟩⟩
  · rename_i f args tys heq; simp only at heq; subst heq
    obtain ⟨rfl, g, caps, hf, hp⟩ := h
    have hfr := hr f (by simp [Op.operands, Call.operands])
    rw [hf] at hfr
    generalize hu : ρ f = u at hfr
    cases hfr with
    | @clo _ _ us hs hc =>
      have hrun : (execOp ρ { dst := dst, op := .call { callee := .value f, args := args, argTypes := tys }, type := ty, pos := pos, after := after, guard := guard }).run P w = .ok (.enter g ((#[] ++ args.map ρ) ++ us)) w := by
        simp only [execOp, resolve, hu, Sem.run_bind, run_ofValue, Result.andThen_ok, invoke, run_callFunc_enter' hp.2.2.1]
      refine .inl ⟨rfl, .inr ⟨g, _, hrun, hp.quiet hos ⟨by simp [hs], fun i c u hi hui => ?_⟩⟩⟩
      simp only [Array.empty_append] at hui
      rcases Nat.lt_or_ge i args.size with hlt | hge
      · rw [List.getElem?_append_left (by simpa using hlt)] at hi
        rw [Array.getElem?_append_left (by simpa using hlt)] at hui
        simp only [List.getElem?_map, Array.getElem?_toList, Array.getElem?_map] at hi hui
        cases hq : args[i]? with
        | none => simp [hq] at hi
        | some q =>
          simp only [hq, Option.map_some, Option.some.injEq] at hi hui
          subst hi; subst hui
          exact hr q (by simp only [Op.operands, Call.operands, Array.mem_append]; exact .inr (Array.mem_of_getElem? hq))
      · rw [List.getElem?_append_right (by simpa using hge)] at hi
        rw [Array.getElem?_append_right (by simpa using hge)] at hui
        simp only [List.length_map, Array.length_toList, Array.size_map] at hi hui
        exact hc _ _ _ hi hui
  · obtain ⟨rfl, hv⟩ := h
    classical
    let ev' : Operand → AV := fun y => if y ∈ op.operands then ev y else .any
    have hv' : aVal P ⟨dst, op, ty, pos, after, guard⟩ ev' os (fun y => y = x) := aVal_congr (fun y hy => by simp only [ev']; rw [if_pos hy]) hv
    obtain ⟨r, z, h1, h2, rfl⟩ := aVal_sound (hos.beside hsub) (fun y => by
      simp only [ev']
      split
      · rename_i hy; exact (hr y hy).mono fun b o ha => (AvBeside_iff hsub b o).1 ha
      · exact .any _) hv'
    exact .inl ⟨rfl, .inl ⟨z, w, h1, .refl _ w, h2.mono fun b o ha => (AvBeside_iff hsub b o).2 ha⟩⟩
end
end Go.Proofs.YtmepcmphcghbeaaDoor
