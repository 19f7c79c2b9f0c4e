/- Texts of the abstract walk, of the contracts and of the plain laws, packed (part 10 of 48): Ab8. Conditions: none. -/
import Derived.Test.YtmepcmphcghbeaaDoorPk9
import Derived.Laws.RangeString
namespace Go.Proofs.YtmepcmphcghbeaaDoor
open Go Go.RowKit
set_option linter.unnecessarySimpa false
def aStore (P : Program) (t : Nat) (x y : AV) (st : St) (K : St → Prop) : Prop :=
  match tinf P t, x with
  | some (_, n), .ptr id off =>
    match getO st.os id with
    | some (.cells t' cs) => y.flat = true ∧ y.cl.length = n ∧ off + n ≤ cs.length ∧ y.cl.all AV.one = true ∧ K { st with os := putO st.os id (.cells t' (splice cs off y.cl)) }
    | _ => False
  | some (_, n), .rptr id n' sz i off =>
    match getO st.os id with
    | some (.row t' sz' xs) => sz' = sz ∧ n' = xs.length ∧ i < xs.length ∧ off + n ≤ sz ∧ y.flat = true ∧ y.cl.length = n ∧ y.cl.all AV.one = true ∧ K { st with os := putO st.os id (.row t' sz (xs.set i (splice (xs.getD i []) off y.cl))) }
    | _ => False
  | _, _ => False
def St.new (st : St) (ob : Ob) : St := { st with os := (st.nx, ob) :: st.os, nx := st.nx + 1 }
def isArrT (P : Program) (t : Nat) : Bool :=
  match P.underlying t with
  | some (.array ..) => true
  | some (.struct fs) => match fs.toList with
    | [a, b, c] => match P.underlying a.type, P.underlying b.type, P.underlying c.type with
      | some (.int .i64), some (.slice _), some (.int .i64) => true
      | _, _, _ => false
    | _ => false
  | _ => false
def aBuildSl (P : Program) (t n : Nat) (parts : List (Nat × AV)) (st : St) (K : AV → St → Prop) : Prop :=
  match elemInf P t with
  | some (e, sz, _) => n * sz ≤ 2 ^ 24 ∧ parts.map (·.1) = List.range n ∧
    if n = 0 then K (.osl st.nx sz []) (st.new (.tok e sz 0))
    else (∀ p ∈ parts, p.2.flat = true ∧ p.2.cl.length = sz) ∧ if isArrT P e = true then K (.own st.nx n) (st.new (.row e sz (parts.map fun p => p.2.cl))) else K (.sl sz (parts.map fun p => p.2.cl)) st
  | none => False
def aSet : List (Int × AV) → Int → AV → List (Int × AV)
  | [], k, x => [(k, x)]
  | (k', y) :: rest, k, x => if k' = k then (k, x) :: rest else (k', y) :: aSet rest k x
def aMapUpd (P : Program) (t : Nat) (m k x : AV) (st : St) (K : St → Prop) : Prop :=
  match mapZ P t, m, k with
  | some _, .map id, .v (.int .i64 k) =>
    match getO st.os id with
    | some (.map es) => K { st with os := putO st.os id (.map (aSet es k x)) }
    | _ => False
  | _, _, _ => False
def slAt (os : Os) (sz0 : Nat) (x : AV) : Option (Nat × List (List AV)) :=
  match x with
  | .own id n => match getO os id with
    | some (.row _ sz xs) => if n = xs.length then some (sz, xs) else none
    | _ => none
  | .v (.slice none 0 0) => some (sz0, [])
  | x => slOf x
def slIn (P : Program) (t : Nat) (os : Os) (x : AV) : Option (Nat × List (List AV)) :=
  match elemInf P t with
  | some (_, sz, _) => slAt os sz x
  | none => none
def aAppend (P : Program) (t : Nat) (s x : AV) (st : St) (K : AV → St → Prop) : Prop :=
  match elemInf P t, s, slIn P t st.os x with
  | some (e, sz, bytes), .osl id sz' xs, some (sz'', ys) =>
    match getO st.os id with
    | some (.tok e' sz3 n) => e' = e ∧ sz3 = sz ∧ sz' = sz ∧ sz'' = sz ∧ n = xs.length ∧ (ys.all fun y => y.all AV.one) = true ∧ (xs.length + ys.length) * bytes ≤ 140737488355328 ∧ xs.length + ys.length ≤ maxLen ∧
        K (.osl id sz (xs ++ ys)) { st with os := putO st.os id (.tok e sz (xs.length + ys.length)) }
    | _ => False
  | some (e, sz, bytes), .v (.slice none 0 0), some (sz'', ys) => sz'' = sz ∧ (ys.all fun y => y.all AV.one) = true ∧ ys.length * bytes ≤ 140737488355328 ∧ ys.length ≤ maxLen ∧
      K (.osl st.nx sz ys) { st with os := (st.nx, .tok e sz ys.length) :: st.os, nx := st.nx + 1 }
  | some (e, sz, bytes), .own id n, some (sz'', ys) =>
    match getO st.os id with
    | some (.row e' sz3 xs) => e' = e ∧ sz3 = sz ∧ sz'' = sz ∧ n = xs.length ∧ (ys.all fun y => y.all AV.one) = true ∧ (xs.length + ys.length) * bytes ≤ 140737488355328 ∧ xs.length + ys.length ≤ maxLen ∧
        K (.own id (xs.length + ys.length)) { st with os := putO st.os id (.row e sz (xs ++ ys)) }
    | _ => False
  | _, _, _ => False
def aCallV (P : Program) (f : AV) (args : List AV) (dst : Option Nat) (st : St) (K : St → Prop) : Prop :=
  match f with
  | .clo g caps => ACalls P g (args ++ caps) st.os st.nx fun r os' nx' => K (({ st with os := os', nx := nx' } : St).put dst r)
  | .mth g pre => ACalls P g (pre ++ args) st.os st.nx fun r os' nx' => K (({ st with os := os', nx := nx' } : St).put dst r)
  | _ => False
def aRange (P : Program) (t : Nat) (x : AV) (st : St) (K : AV → St → Prop) : Prop :=
  match x with
  | .v (.string s) => isStrT P t = true ∧ K (.ptr st.nx 0) (st.new (.raw (.stringIter s 0)))
  | _ => False
def nextV (s : ByteArray) (pos : Nat) : AV := if pos < s.size then .tup [.v (.bool true), .v (.int .i64 (pos : Int)), .v (.int .i32 ((Utf8.decode s pos).1 : Int))] else .tup [.v (.bool false)]
def nextP (s : ByteArray) (pos : Nat) : Nat := if pos < s.size then pos + (Utf8.decode s pos).2 else pos
theorem aExtract_next (s : ByteArray) (pos : Nat) (K : AV → Prop) : aExtract (nextV s pos) 0 K ↔ K (.v (.bool (decide (pos < s.size)))) := by
  unfold nextV
  split
  · rename_i h; simp [aExtract, h]
  · rename_i h; simp [aExtract, h]
def aNext (x : AV) (st : St) (K : AV → St → Prop) : Prop :=
  match x with
  | .ptr id 0 => match getO st.os id with
    | some (.raw (.stringIter s pos)) => K (nextV s pos) { st with os := putO st.os id (.raw (.stringIter s (nextP s pos))) }
    | _ => False
  | _ => False
def aop (P : Program) (o : Oper) (st : St) (K : St → Prop) : Prop :=
  match o.op with
  | .box t x => (st.ev x).flat = true ∧ K ((st.new (.cells t (st.ev x).cl)).put o.dst (.ptr st.nx 0))
  | .alloc t => match zeroC P t with | some z => K ((st.new (.cells t (z.map .v))).put o.dst (.ptr st.nx 0)) | none => False
  | .store t x y => aStore P t (st.ev x) (st.ev y) st fun st' => K (st'.put o.dst (.v undef))
  | .buildSlice t n parts => aBuildSl P t n (parts.toList.map fun p => (p.1, st.ev p.2)) st fun x st' => K (st'.put o.dst x)
  | .makeMap _ none => K ((st.new (.map [])).put o.dst (.map st.nx))
  | .mapUpdate t m k x => aMapUpd P t (st.ev m) (st.ev k) (st.ev x) st fun st' => K (st'.put o.dst (.v undef))
  | .call { callee := .builtin .append, args := ⟨[s, x]⟩, argTypes := ⟨[t, t']⟩ } => t' = t ∧ aAppend P t (st.ev s) (st.ev x) st fun y st' => K (st'.put o.dst y)
  | .call { callee := .value f, args := args, argTypes := _ } => aCallV P (st.ev f) (args.toList.map st.ev) o.dst st K
  | .range t x => aRange P t (st.ev x) st fun y st' => K (st'.put o.dst y)
  | .next x true => aNext (st.ev x) st fun y st' => K (st'.put o.dst y)
  | .slice t x none (some y) none => match st.ev x with
    | .own id n => aReslice P t id n (st.ev y) st fun z st' => K (st'.put o.dst z)
    | _ => aVal P o st.ev st.os fun x => K (st.put o.dst x)
  | _ => aVal P o st.ev st.os fun x => K (st.put o.dst x)
def aWant (ops : List Oper) (o : Oper) (st : St) (T F : Prop) : Prop :=
  match o.guard with
  | none => T
  | some (j, want) =>
    match ((ops[j]?).bind (·.dst)) with
    | none => F
    | some d => match st.get d with
      | .v (.bool b) => if b = want then T else F
      | .v (.tuple _) => F
      | _ => False
def aops (P : Program) (ops : List Oper) : List Oper → St → (St → Prop) → Prop
  | [], st, K => K st
  | o :: rest, st, K => aWant ops o st (aop P o st fun st' => aops P ops rest st' K) (aops P ops rest (st.put o.dst (.v undef)) K)
section
variable {P : Program} {A0 : Nat → Nat → Prop} {E0 : Env} {os0 : Os} {w0 : World} {E : Env} {st : St} {a : Act} {w : World}
theorem run_ofValue (g : Nat) (us args : Array Value) : (Deferred.ofValue (.func (.func g) #[] us) args).run P w = .ok { target := .fn (.func g) us, args := #[] ++ args } w := rfl
theorem run_ofValue2 (g : Nat) (pre args : Array Value) : (Deferred.ofValue (.func (.func g) pre #[]) args).run P w = .ok { target := .fn (.func g) #[], args := pre ++ args } w := rfl
theorem run_callFunc_enter' {f : Nat} (h : HasBody P f) (args : Array Value) : (callFunc f args).run P w = .ok (.enter f args) w := by
  obtain ⟨fn, hf, hn, hb⟩ := h
  simp only [callFunc, Sem.run_bind, run_program, Result.andThen_ok, hf, hn, hb, Bool.false_eq_true, if_false, Sem.run_pure]
theorem aSet_sound {A : Nat → Nat → Prop} (k : Int) (x : AV) (v : Value) (hx : Rp E A w x v) (clock : Nat) : ∀ (es : List (Int × AV)) (ents : List MapEntry), ents.length = es.length →
    (∀ (i : Nat) (p : Int × AV) (e : MapEntry), es[i]? = some p → ents[i]? = some e → e.key = .int .i64 p.1 ∧ Rp E A w p.2 e.val) →
    (aFind es k = none → (∀ (i : Nat) (p : Int × AV) (e : MapEntry), (aSet es k x)[i]? = some p → (ents ++ [({ key := .int .i64 k, val := v, born := clock } : MapEntry)])[i]? = some e → e.key = .int .i64 p.1 ∧ Rp E A w p.2 e.val) ∧ (aSet es k x).length = es.length + 1) ∧
    ∀ (j : Nat) (y : AV), es[j]? = some (k, y) → (∀ i p, es[i]? = some p → i < j → p.1 ≠ k) → aSet es k x = es.set j (k, x)
  | [], [], _, _ => ⟨fun _ => ⟨fun i p e hp he => by
      match i with
      | 0 => simp [aSet] at hp he; subst hp; subst he; exact ⟨rfl, hx⟩
      | i + 1 => simp [aSet] at hp, rfl⟩, fun j y hj => by simp at hj⟩
  | (k', y') :: es, e0 :: ents, hl, h => by
    have ih := aSet_sound k x v hx clock es ents (by simpa using hl) (fun i p e hp he => h (i + 1) p e (by simpa using hp) (by simpa using he))
    refine ⟨fun hn => ?_, fun j y hj hfirst => ?_⟩
    · have hk : k' ≠ k := by intro e; simp [aFind, e] at hn
      have hn' : aFind es k = none := by simpa [aFind, hk] using hn
      obtain ⟨h1, h2⟩ := ih.1 hn'
      refine ⟨fun i p e hp he => ?_, by simp [aSet, hk, h2]⟩
      simp only [aSet, if_neg hk] at hp
      match i with
      | 0 => exact h 0 p e (by simpa using hp) (by simpa using he)
      | i + 1 => exact h1 i p e (by simpa using hp) (by simpa using he)
    · match j with
      | 0 => simp at hj; obtain ⟨rfl, rfl⟩ := hj; simp [aSet]
      | j + 1 =>
        have hk : k' ≠ k := hfirst 0 (k', y') rfl (by omega)
        simp only [aSet, if_neg hk, List.set_cons_succ]
        rw [ih.2 j y (by simpa using hj) (fun i p hp hi => hfirst (i + 1) p (by simpa using hp) (by omega))]
theorem aFill_seq {sz : Nat} {n : Nat} : ∀ (parts : List (Nat × AV)) (k : Nat) (pre zs : List AV), parts.map (·.1) = (List.range' k parts.length) → k + parts.length ≤ n → pre.length = k * sz → zs.length = parts.length * sz →
    (∀ p ∈ parts, p.2.flat = true ∧ p.2.cl.length = sz) → aFill ((List.range n).map fun i => (i * sz, sz)) parts (pre ++ zs) (fun ds => ds = pre ++ (parts.map fun p => p.2.cl).flatten)
  | [], k, pre, zs, _, _, _, hz, _ => by
    have : zs = [] := List.eq_nil_of_length_eq_zero (by simpa using hz)
    simp [aFill, this]
  | (i, x) :: rest, k, pre, zs, hi, hn, hp, hz, hf => by
    simp only [List.map_cons, List.length_cons, List.range'_succ, List.cons.injEq] at hi
    obtain ⟨rfl, hi⟩ := hi
    obtain ⟨h1, h2⟩ := hf (i, x) (List.mem_cons_self ..)
    simp only at h1 h2
    simp only [List.length_cons, Nat.add_mul] at hz hn
    have hget : ((List.range n).map fun i => (i * sz, sz))[i]? = some (i * sz, sz) := by
      rw [List.getElem?_map, List.getElem?_range (by omega)]; rfl
    simp only [aFill, hget]
    refine ⟨h1, h2, by simp; omega, ?_⟩
    have e1 : splice (pre ++ zs) (i * sz) x.cl = (pre ++ x.cl) ++ zs.drop sz := by
      unfold splice
      rw [← hp, List.take_left', List.drop_append, List.drop_eq_nil_of_le (by omega)]
      · simp [h2]
      · rfl
    rw [e1]
    have := aFill_seq (n := n) rest (i + 1) (pre ++ x.cl) (zs.drop sz) hi (by omega) (by simp [hp, h2, Nat.add_mul]) (by simp; omega) (fun p hp => hf p (List.mem_cons_of_mem _ hp))
    simpa [List.append_assoc] using this
theorem buildSl_sound {os : Os} {ev : Operand → AV} {ρ : Operand → Value} {t n e sz bytes : Nat} {parts : Array (Nat × Operand)} (hos : OsOk A0 E os w) (hr : ∀ p ∈ parts.toList, Rp E (AvX A0 E os) w (ev p.2) (ρ p.2))
    (he : elemInf P t = some (e, sz, bytes)) (hle : n * sz ≤ 2 ^ 24) (hord : parts.toList.map (·.1) = List.range n) (hn : n ≠ 0) (hall : ∀ p ∈ parts.toList, (ev p.2).flat = true ∧ (ev p.2).cl.length = sz) :
    ∃ z w' cells, (Instr.buildSlice t n (parts.map fun (i, x) => (i, ρ x))).run P w = .ok z w' ∧ Below w.heap.size w w' ∧ Rp E (AvX A0 E os) w' (.sl sz (parts.toList.map fun p => (ev p.2).cl)) z ∧
      z = .slice (some ⟨w.heap.size, 0, none⟩) n n ∧ n ≤ maxLen ∧ w'.heap[w.heap.size]? = some (.cells cells e (0, 0)) ∧ cells.size = n * sz ∧
      ∀ (j : Nat) (c : AV) (u : Value), (parts.toList.map fun p => (ev p.2).cl).flatten[j]? = some c → cells[j]? = some u → Rp E (AvX A0 E os) w c u := by
  obtain ⟨i, zv, ht, hi, hzero, rfl, rfl, hzs, hsz0⟩ := elemInf_spec he
  have hpl : parts.size = n := by have := congrArg List.length hord; simpa using this
  have hzl : ((List.range (n * i.size)).map fun j => AV.v (zv.cells[j % zv.cells.size]!)).length = (parts.toList.map fun p => (p.1, ev p.2)).length * i.size := by simp [hpl]
  have hseq := aFill_seq (sz := i.size) (n := n) (parts.toList.map fun p => (p.1, ev p.2)) 0 [] ((List.range (n * i.size)).map fun j => AV.v (zv.cells[j % zv.cells.size]!))
    (by
      have : (List.map (·.1) (parts.toList.map fun p => (p.1, ev p.2))) = parts.toList.map (·.1) := by simp
      rw [this, hord, List.range_eq_range']; simp [hpl]) (by simp [hpl]) (by simp) hzl (fun p hp => by
      obtain ⟨q, hq, rfl⟩ := List.mem_map.1 hp
      exact hall q hq)
  simp only [List.nil_append] at hseq
  obtain ⟨ds, cells, h1, h2, h3, h4⟩ := fill_sound (E := E) (A := AvX A0 E os) (w := w) (place := fun j => some (j * i.size, i.size)) _ ((parts.toList.map fun p => (p.1, ρ p.2)))
    _ ((Array.range (n * i.size)).map (zv.cells[· % zv.cells.size]!)) _ (fun p hp => by
      obtain ⟨q, hq, rfl⟩ := List.mem_map.1 hp
      have hm : q.1 ∈ parts.toList.map (·.1) := List.mem_map.2 ⟨q, hq, rfl⟩
      rw [hord] at hm
      rw [List.getElem?_map, List.getElem?_range (List.mem_range.1 hm)]; rfl) (by simp) (fun j p u hp hu => by
      simp only [List.getElem?_map] at hp hu
      cases hq : parts.toList[j]? with
      | none => simp [hq] at hp
      | some q =>
        simp only [hq, Option.map_some, Option.some.injEq] at hp hu
        subst hp; subst hu
        exact ⟨rfl, hr q (List.mem_of_getElem? hq)⟩) (by simp) (fun j c u hc hu => by
      rcases Nat.lt_or_ge j (n * i.size) with hlt | hge
      · have hu' : u = zv.cells[j % zv.cells.size]! := by simp [hlt] at hu; exact hu.symm
        have hc' : c = .v (zv.cells[j % zv.cells.size]!) := by
          rw [List.getElem?_map, List.getElem?_range hlt] at hc
          simp only [Option.map_some, Option.some.injEq] at hc
          exact hc.symm
        subst hu'; subst hc'; exact .v _
      · rw [List.getElem?_eq_none (by simpa using hge)] at hc; cases hc) hseq
  subst h4
  have hrun : (Instr.buildSlice t n (parts.map fun (i, x) => (i, ρ x))).run P w = .ok (.slice (some ⟨w.heap.size, 0, none⟩) n n) (w.alloc (.cells cells e)) := by
    have hne : ¬ (n * i.size = 0) := by
      intro h0
      rcases Nat.mul_eq_zero.1 h0 with h0 | h0 <;> omega
    have hle' : ¬ (n * i.size > 2 ^ 24) := by omega
    simp only [Instr.buildSlice, run_underlying ht, Sem.run_bind, Result.andThen_ok, sizeOf, typeInfo, run_program, hi, Sem.run_pure, if_neg hle', if_neg hne, zeroValue, hzero]
    have e1 : (parts.map fun (x : Nat × Operand) => (x.1, ρ x.2)).toList = parts.toList.map fun p => (p.1, ρ p.2) := by simp
    rw [e1, h1]
    simp [newRow]
  have hnm : n ≤ maxLen := by
    have : n ≤ n * i.size := Nat.le_mul_of_pos_right n hsz0
    simp only [maxLen]; omega
  have e2 : (List.map (fun p : Nat × AV => p.2.cl) (parts.toList.map fun p => (p.1, ev p.2))) = parts.toList.map fun p => (ev p.2).cl := by simp
  have hfl2 : (parts.toList.map fun p => (ev p.2).cl).flatten.length = n * i.size := by
    rw [flatten_len i.size _ (fun x hx => by
      obtain ⟨p, hp, rfl⟩ := List.mem_map.1 hx
      exact (hall p hp).2), List.length_map, Array.length_toList, hpl]
  refine ⟨_, _, cells, hrun, below_alloc w _, .sl (fun j => cells.getD j undef) (by simp [hpl]) (Nat.le_refl _) hnm (fun x hx => ?_) (fun j hj => ⟨?_, ?_⟩) (fun j c hj => ?_), rfl, hnm, heap_alloc_new w _, by rw [h2, e2, hfl2], fun j c u hj hu => by rw [← e2] at hj; exact h3 j c u hj hu⟩
  · obtain ⟨p, hp, rfl⟩ := List.mem_map.1 hx
    exact (hall p hp).2
  · rw [e2] at h2
    rw [Nat.zero_add, cell_of_row _ _ j cells e (0, 0) (heap_alloc_new w _)]
    rw [← h2] at hj
    simp [Array.getD, hj]
  · rw [Nat.zero_add]
    intro ha
    have := hos.lt ha
    omega
  · rw [e2] at h2 h3
    have hj' := (List.getElem?_eq_some_iff.1 hj).1
    rw [← h2] at hj'
    have h5 : cells[j]? = some (cells.getD j undef) := by simp [Array.getD, hj']
    exact (h3 j c _ hj h5).keep (below_alloc w _)
theorem slIn_new {os : Os} {n t : Nat} {ob : Ob} {x : AV} {p : Nat × List (List AV)} (h : slIn P t os x = some p) (hn : ∀ id, E.valid id → id ≠ n) (hv : ∀ id ob, getO os id = some ob → E.valid id) : slIn P t ((n, ob) :: os) x = some p := by
  unfold slIn slAt at h ⊢
  split at h
  · split at h
    · split at h
      · rename_i hg
        have := hn _ (hv _ _ hg)
        simp only [getO, if_neg (Ne.symm this), hg]
        exact h
      · cases h
    · exact h
    · exact h
  · cases h
theorem aop_sound {o : Oper} {K : St → Prop} {Q' : Exit → Act → World → Prop} (h : SimC A0 E0 os0 w0 E st a w) (hop : aop P o st K) :
    o.wp P a w (fun a' w' => ∃ st' E', K st' ∧ SimC A0 E0 os0 w0 E' st' a' w') Q' := by
  have val : ∀ (s : Sem Value) (v : Value) (w' : World), s.run P w = .ok v w' → ((do pure (.value (← s))) : Sem Next).run P w = .ok (.value v) w' := fun s v w' h => by
    simp only [Sem.run_bind, h, Result.andThen_ok, Sem.run_pure]
  have unit : ∀ (s : Sem Unit) (w' : World), s.run P w = .ok () w' → ((do s; pure .skip) : Sem Next).run P w = .ok .skip w' := fun s w' h => by
    simp only [Sem.run_bind, h, Result.andThen_ok, Sem.run_pure]
  obtain ⟨dst, op, ty, pos, after, guard⟩ := o
  unfold aop at hop
  unfold Oper.wp
  split at hop
  · -- box
    rename_i t x heq; simp only at heq; subst heq
    obtain ⟨hf, hk⟩ := hop
    obtain ⟨h1, h2⟩ := (h.ev x).cl hf
    obtain ⟨E', h3, h4⟩ := h.newCells t (st.ev x).cl (a.eval x).cells h1 h2
    have hr : (Instr.box t (a.eval x)).run P w = .ok (.pointer (some ⟨w.heap.size, 0, none⟩)) (w.alloc (.cells (a.eval x).cells t)) := by
      simp [Instr.box, newVar, newRow]
    simp only [execOp, val _ _ _ hr, Oper.upon_value]
    exact ⟨_, E', hk, h3.set h4 dst⟩
  · -- alloc
    rename_i t heq; simp only at heq; subst heq
    split at hop
    case h_2 => exact hop.elim
    rename_i z hz
    unfold zeroC at hz
    cases hi : P.info? t with
    | none => simp [hi] at hz
    | some inf =>
      cases hzz : inf.zero with
      | none => simp [hi, hzz] at hz
      | some zv =>
        simp [hi, hzz] at hz
        subst hz
        obtain ⟨E', h3, h4⟩ := h.newCells t (zv.cells.toList.map .v) zv.cells (by simp) (fun i c u hc hu => by
          simp only [List.getElem?_map, Array.getElem?_toList, hu, Option.map_some, Option.some.injEq] at hc
          subst hc; exact .v _)
        have hr : (Instr.alloc t true (.tuple #[])).run P w = .ok (.pointer (some ⟨w.heap.size, 0, none⟩)) (w.alloc (.cells zv.cells t)) := by
          simp [Instr.alloc, zeroValue, typeInfo, hi, hzz, newVar, newRow]
        simp only [execOp, val _ _ _ hr, Oper.upon_value]
        exact ⟨_, E', hop, h3.set h4 dst⟩
  · -- store
    rename_i t x y heq; simp only at heq; subst heq
    unfold aStore at hop
    split at hop
    case h_3 => exact hop.elim
    case h_2 =>
      rename_i agg n id n' sz i off ht hx
      split at hop
      case h_2 => exact hop.elim
      rename_i t' sz' xs hg
      obtain ⟨rfl, hn', hi, hle, hf, hn, hone, hk⟩ := hop
      have hxr := h.ev x
      rw [hx] at hxr
      obtain ⟨h1, h2⟩ := (h.ev y).cl hf
      obtain ⟨_, hsize, _⟩ := tinf_spec ht
      obtain ⟨_, hcnt, _, hrow⟩ := h.os.ok id _ hg
      generalize hu : a.eval x = u at hxr
      cases hxr with
      | @rptr _ _ _ _ _ ad _ _ hcur =>
        obtain ⟨hb, ha⟩ := hcur (by omega)
        obtain ⟨w', h3, h4⟩ := h.storeRow (P := P) (i := i) (off := off) (ds := (st.ev y).cl) (vs := (a.eval y).cells.toList) hg hi (by omega) (by simpa using h1) (fun i c u hc hu => h2 i c u hc (by simpa using hu)) (fun v hv => by
          obtain ⟨i, hi, rfl⟩ := List.mem_iff_getElem.1 hv
          have hi' : i < (st.ev y).cl.length := by rw [← h1]; simpa using hi
          have hc := List.getElem?_eq_getElem hi'
          exact (h2 i _ _ hc (by rw [← Array.getElem?_toList]; exact List.getElem?_eq_getElem hi)).oneCell (List.all_eq_true.1 hone _ (List.getElem_mem hi'))) hb
        rw [← ha] at h3
        have hr : (Instr.storeAt t (.pointer (some ad)) (a.eval y)).run P w = .ok () w' := by
          simp only [Instr.storeAt, Instr.sureAddr, storeVar, Sem.run_bind, Sem.run_pure, Result.andThen_ok, hsize]
          rw [if_neg (by rw [h1, hn]; simp)]
          simp only [Sem.run_bind, Sem.run_pure, Result.andThen_ok, h3]
        simp only [execOp, hu, unit _ _ hr, Oper.upon_skip]
        exact ⟨_, E, hk, h4.set (.v _) dst⟩
    rename_i agg n id off ht hx
    split at hop
    case h_2 => exact hop.elim
    rename_i t' cs hg
    obtain ⟨hf, hn, hle, hone, hk⟩ := hop
    have hxr := h.ev x
    rw [hx] at hxr
    obtain ⟨h1, h2⟩ := (h.ev y).cl hf
    obtain ⟨E', w', h3, h4⟩ := h.store (P := P) (off := off) (ds := (st.ev y).cl) (vs := (a.eval y).cells.toList) hg (by omega) (by simpa using h1) (fun i c u hc hu => h2 i c u hc (by simpa using hu)) (fun v hv => by
      obtain ⟨i, hi, rfl⟩ := List.mem_iff_getElem.1 hv
      have hi' : i < (st.ev y).cl.length := by rw [← h1]; simpa using hi
      have hc := List.getElem?_eq_getElem hi'
      exact (h2 i _ _ hc (by rw [← Array.getElem?_toList]; exact List.getElem?_eq_getElem hi)).oneCell (List.all_eq_true.1 hone _ (List.getElem_mem hi')))
    obtain ⟨_, hsize, _⟩ := tinf_spec ht
    generalize hu : a.eval x = u at hxr
    cases hxr
    have hr : (Instr.storeAt t (.pointer (some ⟨E.blk id, off, none⟩)) (a.eval y)).run P w = .ok () w' := by
      simp only [Instr.storeAt, Instr.sureAddr, storeVar, Sem.run_bind, Sem.run_pure, Result.andThen_ok, hsize]
      rw [if_neg (by rw [h1, hn]; simp)]
      simp only [Sem.run_bind, Sem.run_pure, Result.andThen_ok, h3]
    simp only [execOp, hu, unit _ _ hr, Oper.upon_skip]
    exact ⟨_, E', hk, h4.set (.v _) dst⟩
  · -- buildSlice
    rename_i t n parts heq; simp only at heq; subst heq
    unfold aBuildSl at hop
    split at hop
    case h_2 => exact hop.elim
    rename_i e sz bytes he
    obtain ⟨i, zv, ht, hi, hzero, rfl, rfl, hzs, hsz0⟩ := elemInf_spec he
    obtain ⟨hle, hord, hop⟩ := hop
    have hpl : parts.size = n := by have := congrArg List.length hord; simpa using this
    by_cases hn : n = 0
    · subst hn
      rw [if_pos rfl] at hop
      have hpe : parts = #[] := Array.eq_empty_of_size_eq_zero hpl
      subst hpe
      have hr : (Instr.buildSlice t 0 #[]).run P w = .ok (.slice (some ⟨w.heap.size, 0, none⟩) 0 0) (w.alloc (.cells #[] e)) := by
        have h0 : ∀ f : Nat → Value, Array.map f (Array.range 0) = #[] := fun f => Array.eq_empty_of_size_eq_zero (by simp)
        simp [Instr.buildSlice, run_underlying ht, sizeOf, typeInfo, hi, Instr.fill, newRow, h0]
      simp only [execOp, Array.map_empty, val _ _ _ hr, Oper.upon_value]
      have hs := h.add (below_alloc w (.cells #[] e)) 0 (.slice (some ⟨w.heap.size, 0, none⟩) 0 0) 0 (.tok e i.size 0) (fun b hb => by
        simp [Ob.blk, Env.add, Value.ownBlock] at hb; omega)
        ⟨by simp [Env.add], .inr ⟨w.heap.size, 0, #[], by simp [Env.add], Nat.le_refl _, by simp [maxLen], heap_alloc_new w _, by simp, trivial⟩⟩
      exact ⟨_, _, hop, hs.set (.osl (.inr rfl) (.sl0 (by simp [maxLen])) (by simp) (fun _ => by simp [Env.add])) dst⟩
    · rw [if_neg hn] at hop
      obtain ⟨hall, hk⟩ := hop
      obtain ⟨z, w', cells, h1, h2, h3, hz, hnm, hh, hcs, hcr⟩ := buildSl_sound (P := P) h.os (ev := st.ev) (ρ := a.eval) (fun p _ => h.ev p.2) he hle (by simpa [Function.comp_def] using hord) hn (fun p hp => hall (p.1, st.ev p.2) (List.mem_map.2 ⟨p, hp, rfl⟩))
      simp only [execOp, val _ _ _ h1, Oper.upon_value]
      split at hk
      · obtain ⟨E', h4, h5⟩ := h.newRow (e := e) (sz := i.size) (n := n) (xs := parts.toList.map fun p => (st.ev p.2).cl) h2 (by simp [hpl]) hnm hh hcs (fun x hx => by
          obtain ⟨p, hp, rfl⟩ := List.mem_map.1 hx
          exact (hall (p.1, st.ev p.2) (List.mem_map.2 ⟨p, hp, rfl⟩)).2) hcr
        have e9 : (List.map (fun p : Nat × AV => p.2.cl) (parts.toList.map fun p => (p.1, st.ev p.2))) = parts.toList.map fun p => (st.ev p.2).cl := by simp [Function.comp_def]
        rw [e9] at hk
        rw [hz]
        exact ⟨_, E', hk, h4.set h5 dst⟩
      have hs := h.upd (.refl E) (.of_below h2) (fun _ _ h => .inl h) (h.os.keep h2) h.nx
      refine ⟨_, E, hk, hs.set ?_ dst⟩
      simpa [Function.comp_def] using h3
  · -- makeMap
    rename_i t heq; simp only at heq; subst heq
    have hr : (Instr.makeMap t none).run P w = .ok (.map (some w.heap.size)) (w.alloc (.map #[] 0)) := by simp [Instr.makeMap]
    simp only [execOp, Option.map_none, val _ _ _ hr, Oper.upon_value]
    have hs := h.add (below_alloc w (.map #[] 0)) w.heap.size undef 0 (.map []) (fun b hb => by simp [Ob.blk, Env.add] at hb; omega)
      ⟨#[], 0, by simp only [Env.add, if_true]; exact heap_alloc_new w _, rfl, (fun i p e hp _ => by simp at hp), MapKept.stamped_empty 0⟩
    have e1 : (Value.map (some w.heap.size)) = .map (some ((E.add st.nx w.heap.size undef 0).blk st.nx)) := by simp [Env.add]
    refine ⟨_, _, hop, hs.set ?_ dst⟩
    rw [e1]
    exact .map (.inr rfl)
  · -- mapUpdate
    rename_i t m k x heq; simp only at heq; subst heq
    unfold aMapUpd at hop
    split at hop
    case h_2 => exact hop.elim
    rename_i z id k' hz hm hk'
    split at hop
    case h_2 => exact hop.elim
    rename_i es hg
    have hmr := h.ev m
    have hkr := h.ev k
    rw [hm] at hmr
    rw [hk'] at hkr
    generalize hu : a.eval m = u at hmr
    generalize hv : a.eval k = v at hkr
    cases hmr
    cases hkr
    obtain ⟨hvv, ents, clock, hh, hsz, hent, hstm⟩ := h.os.ok id _ hg
    obtain ⟨kt, et, inf, hut, hku, hinf, hzero⟩ := mapZ_spec hz
    have hget : (getObj (E.blk id)).run P w = .ok (.map ents clock) w := by simp [getObj, Sem.run, hh]
    have hset : ∀ o : Obj, (setObj (E.blk id) o).run P w = .ok () { w with heap := w.heap.setIfInBounds (E.blk id) o } := fun o => by simp [setObj, Sem.run, hh]
    have hck := run_checkKey (P := P) (w := w) hku false k'
    have hlt : E.blk id < w.heap.size := (Array.getElem?_eq_some_iff.1 hh).1
    have e0 : E.chg id (E.cur id) (E.cnt id) = E := by
      cases E with | mk v b c n => simp only [Env.chg]; congr 1 <;> (funext j; by_cases hj : j = id <;> simp [hj])
    have fin : ∀ (ents' : Array MapEntry) (clock' : Nat), ents'.size = (aSet es k' (st.ev x)).length →
        (∀ (i : Nat) (p : Int × AV) (e : MapEntry), (aSet es k' (st.ev x))[i]? = some p → ents'[i]? = some e → e.key = .int .i64 p.1 ∧ Rp E (AvX A0 E st.os) w p.2 e.val) → MapKept.Stamped ents' clock' →
        SimC A0 E0 os0 w0 E { st with os := putO st.os id (.map (aSet es k' (st.ev x))) } a { w with heap := w.heap.setIfInBounds (E.blk id) (.map ents' clock') } := by
      intro ents' clock' hs' hr' hstm'
      have hoth : ∀ b, b ≠ E.blk id → (w.heap.setIfInBounds (E.blk id) (.map ents' clock'))[b]? = w.heap[b]? := fun b hb => by
        rw [Array.getElem?_setIfInBounds, if_neg (fun e => hb e.symm)]
      have hstp : Stp (Av E st.os) w { w with heap := w.heap.setIfInBounds (E.blk id) (.map ents' clock') } := by
        refine ⟨rfl, rfl, rfl, by simp, fun b hb hn => hoth b (fun e => hn 0 ⟨id, _, hg, by rw [e]; rfl, trivial⟩), fun b o hb hn => ?_⟩
        exact World.cell?_of_block (hoth b (fun e => hn ⟨id, _, hg, by rw [e]; rfl, trivial⟩))
      have hA : ∀ b o, AvX A0 E (putO st.os id (.map (aSet es k' (st.ev x)))) b o → AvX A0 E st.os b o := by
        refine fun b o ha => ha.imp (fun h => h) ?_
        rintro ⟨j, o', hj, hbk, hav⟩
        rw [getO_putO] at hj
        split at hj
        · rename_i he; cases hj; subst he; exact ⟨_, _, hg, hbk, trivial⟩
        · exact ⟨j, o', hj, hbk, hav⟩
      have := h.chg (ob' := .map (aSet es k' (st.ev x))) hg (E.cur id) (E.cnt id) (Nat.le_refl _) (fun _ => rfl) hstp (fun b _ hb => hoth b (fun e => hb (by rw [e]; rfl)))
        (by rw [e0]; intro b hb; exact .inl hb) (fun _ _ _ _ _ => trivial) (by
          rw [e0]
          refine ⟨ents', clock', by simp [hlt], hs', fun i p e hp he => ?_, hstm'⟩
          obtain ⟨h1, h2⟩ := hr' i p e hp he
          exact ⟨h1, h2.step (hstp.mono fun b o _ ha => .inr ha) (.refl E) (fun b o ha => .inl (hA b o ha))⟩)
      rw [e0] at this
      exact this
    have hset' := aSet_sound (E := E) (A := AvX A0 E st.os) k' (st.ev x) (a.eval x) (h.ev x) clock es ents.toList (by simpa using hsz) (fun i p e hp he => hent i p e hp (by simpa using he))
    rcases findNow_sound (E := E) (w := w) k' es ents.toList 0 (by simpa using hsz) (fun i p e hp he => hent i p e hp (by simpa using he)) with ⟨h1, h2, hnk⟩ | ⟨i, y, e, h1, h2, h3, h4, h5, h6⟩
    · have hr : (Instr.mapUpdate t (.map (some (E.blk id))) (.int .i64 k') (a.eval x)).run P w = .ok () { w with heap := w.heap.setIfInBounds (E.blk id) (.map (ents.push { key := .int .i64 k', val := a.eval x, born := clock }) (clock + 1)) } := by
        simp only [Instr.mapUpdate, run_underlying hut, Sem.run_bind, Result.andThen_ok, hget, hck, Instr.findKey, run_underlying hku, h2, Sem.run_pure, hset]
      simp only [execOp, hu, hv, unit _ _ hr, Oper.upon_skip]
      obtain ⟨h7, h8⟩ := hset'.1 h1
      exact ⟨_, E, hop, (fin _ _ (by simp [h8, hsz]) (fun i p e hp he => h7 i p e hp (by rw [← Array.toList_push, Array.getElem?_toList]; exact he)) (MapKept.stamped_push hstm fun x hx => by
        obtain ⟨i, hi, rfl⟩ := List.mem_iff_getElem.1 hx
        have hie : i < es.length := by rw [← hsz]; simpa using hi
        have h9 := (hent i _ _ (List.getElem?_eq_getElem hie) (by rw [← Array.getElem?_toList]; exact List.getElem?_eq_getElem hi)).1
        rw [h9]
        intro e9
        exact hnk _ (List.getElem_mem hie) (by simpa using e9))).set (.v _) dst⟩
    · rw [Nat.zero_add] at h2
      have hi : i < ents.size := by have := (List.getElem?_eq_some_iff.1 h4).1; simpa using this
      have hei : ents[i]? = some e := by simpa using h4
      obtain ⟨hek, _⟩ := hent i _ e h3 hei
      simp only at hek
      have hst : (Instr.keyThatStays ((((ents[i]?).map (·.key))).getD (.int .i64 k')) (.int .i64 k')).run P w = .ok (.int .i64 k') w := by
        have key : ∀ d, Instr.sameBits (d + 1) (.int .i64 k') (.int .i64 k') = true := fun d => by simp [Instr.sameBits]
        have hsb : Instr.sameBits 10000 (.int .i64 k') (.int .i64 k') = true := key 9999
        simp only [hei, Option.map_some, Option.getD_some, hek, Instr.keyThatStays, hsb, if_true, Sem.run_pure]
      have hr : (Instr.mapUpdate t (.map (some (E.blk id))) (.int .i64 k') (a.eval x)).run P w = .ok () { w with heap := w.heap.setIfInBounds (E.blk id) (.map (ents.modify i fun e => { e with key := .int .i64 k', val := a.eval x }) clock) } := by
        simp only [Instr.mapUpdate, run_underlying hut, Sem.run_bind, Result.andThen_ok, hget, hck, Instr.findKey, run_underlying hku, h2, Sem.run_pure, hst, hset]
      simp only [execOp, hu, hv, unit _ _ hr, Oper.upon_skip]
      have h7 := hset'.2 i y h3 h6
      refine ⟨_, E, hop, (fin _ _ (by simp [h7, hsz]) (fun j p e' hp he => ?_) (MapKept.stamped_modify hstm i (fun e => { e with key := .int .i64 k', val := a.eval x }) (fun _ _ => rfl) (fun e9 _ h9 => by rw [hei] at h9; cases h9; exact hek.symm))).set (.v _) dst⟩
      rw [h7, List.getElem?_set] at hp
      rw [Array.getElem?_modify] at he
      by_cases hij : i = j
      · subst hij
        rw [if_pos rfl] at hp he
        split at hp
        · cases hp
          rw [hei] at he
          simp at he
          subst he
          exact ⟨rfl, h.ev x⟩
        · cases hp
      · rw [if_neg hij] at hp he
        exact hent j p e' hp he
  · -- append
    rename_i s x t t' heq; simp only at heq; subst heq
    obtain ⟨rfl, hop⟩ := hop
    unfold aAppend at hop
    have slv : ∀ {A0 : Nat → Nat → Prop} {E : Env} {os : Os} {sz : Nat} {ys : List (List AV)} {y : AV} {v : Value}, OsOk A0 E os w → Rp E (AvX A0 E os) w y v → slIn P t' os y = some (sz, ys) → SlV E (AvX A0 E os) w sz ys v := by
      intro A0 E os sz ys y v hos hr hy
      unfold slIn slAt at hy
      split at hy
      case h_2 => cases hy
      split at hy
      · split at hy
        · rename_i hg
          split at hy
          · rename_i hn; cases hy; exact Rp.ownV hos hg hn hr
          · cases hy
        · cases hy
      · cases hy
        cases hr
        exact ⟨fun _ => ⟨_, _, rfl⟩, fun h => by simp at h⟩
      · exact (hr.slOf hy).slV
    split at hop
    case h_4 => exact hop.elim
    case h_3 =>
      rename_i e sz bytes id n sz'' ys he hs hx
      split at hop
      case h_2 => exact hop.elim
      rename_i e' sz3 xs hg
      obtain ⟨rfl, rfl, rfl, rfl, hone, hbytes, hlen, hk⟩ := hop
      have hsr := h.ev s
      rw [hs] at hsr
      obtain ⟨E', z, w', h1, h2, h3⟩ := appendRow_sound (ty := ty) h he hg hsr (slv h.os (h.ev x) hx) (fun y hy c hc => List.all_eq_true.1 (List.all_eq_true.1 hone y hy) c hc) hbytes hlen
      simp only [execOp, resolve, Sem.run_bind, Sem.run_pure, Result.andThen_ok, invoke, builtin, List.map_toArray, List.map_cons, List.map_nil, h1, Oper.upon_value]
      exact ⟨_, E', hk, h2.set h3 dst⟩
    case h_2 =>
      rename_i e sz bytes sz'' ys he hs hx
      obtain ⟨rfl, hone, hbytes, hlen, hk⟩ := hop
      have hsr := h.ev s
      rw [hs] at hsr
      have h' := h.add (.refl _ w) 0 (.slice none 0 0) 0 (.tok e sz'' 0) (fun b hb => by simp [Ob.blk, Env.add, Value.ownBlock] at hb) ⟨by simp [Env.add], .inl ⟨by simp [Env.add], rfl⟩⟩
      have hsr' : Rp (E.add st.nx 0 (.slice none 0 0) 0) (AvX A0 (E.add st.nx 0 (.slice none 0 0) 0) ((st.nx, .tok e sz'' 0) :: st.os)) w (.osl st.nx sz'' []) (a.eval s) := by
        generalize a.eval s = u at hsr
        cases hsr
        exact .osl (.inr rfl) (.sl0 (by simp [maxLen])) (by simp) (fun _ => by simp [Env.add])
      have hxr := h'.ev x
      obtain ⟨E', z, w', h1, h2, h3⟩ := append_sound (ty := ty) (st := { st with os := (st.nx, .tok e sz'' 0) :: st.os, nx := st.nx + 1 }) (id := st.nx) (xs := []) (ys := ys) (sz := sz'') h' he (by simp [getO]) hsr' (slv h'.os hxr (slIn_new (E := E) hx (fun id hid => by have := (h.nx id).1 hid; omega) (fun id ob hg => (h.os.ok id ob hg).1))) (fun y hy c hc => List.all_eq_true.1 (List.all_eq_true.1 hone y hy) c hc) (by simpa using hbytes) (by simpa using hlen)
      simp only [execOp, resolve, Sem.run_bind, Sem.run_pure, Result.andThen_ok, invoke, builtin, List.map_toArray, List.map_cons, List.map_nil, h1, Oper.upon_value]
      simp only [putO, if_true, List.length_nil, Nat.zero_add, List.nil_append] at h2 h3
      exact ⟨_, E', hk, h2.set h3 dst⟩
    rename_i e sz bytes id sz' xs sz'' ys he hs hx
    split at hop
    case h_2 => exact hop.elim
    rename_i e' sz3 n hg
    obtain ⟨rfl, rfl, rfl, rfl, rfl, hone, hbytes, hlen, hk⟩ := hop
    have hsr := h.ev s
    rw [hs] at hsr
    obtain ⟨E', z, w', h1, h2, h3⟩ := append_sound (ty := ty) h he hg hsr (slv h.os (h.ev x) hx) (fun y hy c hc => List.all_eq_true.1 (List.all_eq_true.1 hone y hy) c hc) hbytes hlen
    simp only [execOp, resolve, Sem.run_bind, Sem.run_pure, Result.andThen_ok, invoke, builtin, List.map_toArray, List.map_cons, List.map_nil, h1, Oper.upon_value]
    exact ⟨_, E', hk, h2.set h3 dst⟩
  · -- a call
    rename_i f args tys heq; simp only at heq; subst heq
    unfold aCallV at hop
    split at hop
    case h_3 => exact hop.elim
    case h_2 =>
      rename_i g pre hf
      have hfr := h.ev f
      rw [hf] at hfr
      generalize hu : a.eval f = u at hfr
      cases hfr with
      | @mth _ _ us hs hc =>
        have hr : (execOp a.eval { dst := dst, op := .call { callee := .value f, args := args, argTypes := tys }, type := ty, pos := pos, after := after, guard := guard }).run P w = .ok (.enter g ((us ++ args.map a.eval) ++ #[])) w := by
          simp only [execOp, resolve, hu, Sem.run_bind, run_ofValue2, Result.andThen_ok, invoke, run_callFunc_enter' hop.1]
        rw [hr, Oper.upon_enter]
        refine (hop.2 A0 E w _ h.os h.nx ⟨by simp [hs], fun i c u hi hui => ?_⟩).mono ?_
        · simp only [Array.append_empty] at hui
          rcases Nat.lt_or_ge i pre.length with hlt | hge
          · rw [List.getElem?_append_left hlt] at hi
            rw [Array.getElem?_append_left (by omega)] at hui
            exact hc _ _ _ hi hui
          · rw [List.getElem?_append_right hge] at hi
            rw [Array.getElem?_append_right (by omega)] at hui
            rw [hs] at hui
            simp only [List.getElem?_map, Array.getElem?_toList, Array.getElem?_map] at hi hui
            cases hq : args[i - pre.length]? with
            | none => simp [hq] at hi
            | some q =>
              simp only [hq, Option.map_some, Option.some.injEq] at hi hui
              subst hi; subst hui
              exact h.ev q
        · rintro e w' ⟨r, v, os', nx', E', rfl, q, h1, h2, h3, h4, h5, h6⟩
          exact ⟨_, E', q, (h.upd h4 h5 h6 h2 h3).set h1 dst⟩
    rename_i g caps hf
    have hfr := h.ev f
    rw [hf] at hfr
    generalize hu : a.eval f = u at hfr
    cases hfr with
    | @clo _ _ us hs hc =>
      have hr : (execOp a.eval { dst := dst, op := .call { callee := .value f, args := args, argTypes := tys }, type := ty, pos := pos, after := after, guard := guard }).run P w = .ok (.enter g ((#[] ++ args.map a.eval) ++ us)) w := by
        simp only [execOp, resolve, hu, Sem.run_bind, run_ofValue, Result.andThen_ok, invoke, run_callFunc_enter' hop.1]
      rw [hr, Oper.upon_enter]
      refine (hop.2 A0 E w _ h.os h.nx ⟨by simp [hs], fun i c u hi hui => ?_⟩).mono ?_
      · simp only [Array.empty_append] at hui
        rcases Nat.lt_or_ge i args.size with hlt | hge
        · rw [List.getElem?_append_left (by simpa using hlt)] at hi
          rw [Array.getElem?_append_left (by simpa using hlt)] at hui
          simp only [List.getElem?_map, Array.getElem?_toList, Array.getElem?_map] at hi hui
          cases hq : args[i]? with
          | none => simp [hq] at hi
          | some q =>
            simp only [hq, Option.map_some, Option.some.injEq] at hi hui
            subst hi; subst hui
            exact h.ev q
        · rw [List.getElem?_append_right (by simpa using hge)] at hi
          rw [Array.getElem?_append_right (by simpa using hge)] at hui
          simp only [List.length_map, Array.length_toList, Array.size_map] at hi hui
          exact hc _ _ _ hi hui
      · rintro e w' ⟨r, v, os', nx', E', rfl, q, h1, h2, h3, h4, h5, h6⟩
        exact ⟨_, E', q, (h.upd h4 h5 h6 h2 h3).set h1 dst⟩
  · -- a range over a text
    rename_i t x heq; simp only at heq; subst heq
    unfold aRange at hop
    split at hop
    case h_2 => exact hop.elim
    rename_i s hx
    obtain ⟨hs, hk⟩ := hop
    have hxr := h.ev x
    rw [hx] at hxr
    generalize hu : a.eval x = u at hxr
    cases hxr
    have hr : (Instr.range t (.string s)).run P w = .ok (.pointer (some ⟨w.heap.size, 0, none⟩)) (w.alloc (.stringIter s 0)) := run_range_string (P := P) w t s (isStrT_spec hs)
    simp only [execOp, hu, val _ _ _ hr, Oper.upon_value]
    have hs' := h.add (below_alloc w (.stringIter s 0)) w.heap.size undef 0 (.raw (.stringIter s 0)) (fun b hb => by simp [Ob.blk, Env.add] at hb; omega)
      ⟨rfl, by simp only [Env.add, if_true]; exact heap_alloc_new w _⟩
    have e1 : (Value.pointer (some ⟨w.heap.size, 0, none⟩)) = .pointer (some ⟨(E.add st.nx w.heap.size undef 0).blk st.nx, 0, none⟩) := by simp [Env.add]
    refine ⟨_, _, hk, hs'.set ?_ dst⟩
    rw [e1]
    exact .ptr (.inr rfl)
  · -- the next character
    rename_i x heq; simp only at heq; subst heq
    unfold aNext at hop
    split at hop
    case h_2 => exact hop.elim
    rename_i id hx
    split at hop
    case h_2 => exact hop.elim
    rename_i s pos hg
    have hxr := h.ev x
    rw [hx] at hxr
    generalize hu : a.eval x = u at hxr
    cases hxr
    obtain ⟨hvv, hwk, hh⟩ := h.os.ok id _ hg
    have hget : (getObj (E.blk id)).run P w = .ok (.stringIter s pos) w := by simp [getObj, Sem.run, hh]
    have hset : ∀ o : Obj, (setObj (E.blk id) o).run P w = .ok () { w with heap := w.heap.setIfInBounds (E.blk id) o } := fun o => by simp [setObj, Sem.run, hh]
    have hlt : E.blk id < w.heap.size := (Array.getElem?_eq_some_iff.1 hh).1
    have e0 : E.chg id (E.cur id) (E.cnt id) = E := by
      cases E with | mk v b c n => simp only [Env.chg]; congr 1 <;> (funext j; by_cases hj : j = id <;> simp [hj])
    by_cases hlp : pos < s.size
    · rw [nextV, if_pos hlp, nextP, if_pos hlp] at hop
      have hr : (Instr.next (.pointer (some ⟨E.blk id, 0, none⟩)) true ty).run P w = .ok (.tuple #[.bool true, .int .i64 (pos : Int), .int .i32 ((Utf8.decode s pos).1 : Int)]) { w with heap := w.heap.setIfInBounds (E.blk id) (.stringIter s (pos + (Utf8.decode s pos).2)) } := by
        simp only [Instr.next, Sem.run_bind, hget, Result.andThen_ok, hlp, if_true, hset, Sem.run_pure, goInt]
      have hoth : ∀ o : Obj, ∀ b, b ≠ E.blk id → (w.heap.setIfInBounds (E.blk id) o)[b]? = w.heap[b]? := fun o b hb => by
        rw [Array.getElem?_setIfInBounds, if_neg (fun e => hb e.symm)]
      have hstp : ∀ o : Obj, Stp (Av E st.os) w { w with heap := w.heap.setIfInBounds (E.blk id) o } := fun o => by
        refine ⟨rfl, rfl, rfl, by simp, fun b hb hn => hoth o b (fun e => hn 0 ⟨id, _, hg, by rw [e]; rfl, trivial⟩), fun b o' hb hn => ?_⟩
        exact World.cell?_of_block (hoth o b (fun e => hn ⟨id, _, hg, by rw [e]; rfl, trivial⟩))
      have := h.chg (ob' := .raw (.stringIter s (pos + (Utf8.decode s pos).2))) hg (E.cur id) (E.cnt id) (Nat.le_refl _) (fun _ => rfl) (hstp (.stringIter s (pos + (Utf8.decode s pos).2))) (fun b _ hb => hoth _ b (fun e => hb (by rw [e]; rfl)))
        (by rw [e0]; intro b hb; exact .inl hb) (fun _ _ _ _ _ => trivial) (by
          rw [e0]
          exact ⟨rfl, by simp [hlt]⟩)
      rw [e0] at this
      simp only [execOp, hu, val _ _ _ hr, Oper.upon_value]
      exact ⟨_, E, hop, this.set (.tup rfl (fun i c u hc hu => by
        match i with
        | 0 => cases hc; cases hu; exact .v _
        | 1 => cases hc; cases hu; exact .v _
        | 2 => cases hc; cases hu; exact .v _
        | i + 3 => cases hc)) dst⟩
    · rw [nextV, if_neg hlp, nextP, if_neg hlp] at hop
      have hr : (Instr.next (.pointer (some ⟨E.blk id, 0, none⟩)) true ty).run P w = .ok (.tuple #[.bool false]) w := by
        simp only [Instr.next, Sem.run_bind, hget, Result.andThen_ok, hlp, if_false, Sem.run_pure]
      have := h.chg (ob' := .raw (.stringIter s pos)) hg (E.cur id) (E.cnt id) (Nat.le_refl _) (fun _ => rfl) (.refl _ w) (fun b _ hb => rfl)
        (by rw [e0]; intro b hb; exact .inl hb) (fun _ _ _ _ _ => trivial) (by
          rw [e0]
          exact ⟨rfl, hh⟩)
      rw [e0] at this
      simp only [execOp, hu, val _ _ _ hr, Oper.upon_value]
      exact ⟨_, E, hop, this.set (.tup rfl (fun i c u hc hu => by
        match i with
        | 0 => cases hc; cases hu; exact .v _
        | i + 1 => cases hc)) dst⟩
  · -- a slice of a row
    rename_i t x y heq; simp only at heq; subst heq
    split at hop
    · rename_i id n hx
      have hxr := h.ev x
      rw [hx] at hxr
      obtain ⟨r, st', E', z, h1, h2, h3, hk, hsl, hn0⟩ := aReslice_sound h hxr (h.ev y) hop
      simp only [execOp, Option.map_none, Option.map_some, val _ _ _ h1, Oper.upon_value]
      exact ⟨_, E', hk, h2.set h3 dst⟩
    · obtain ⟨r, z, h1, h2, h3⟩ := aVal_sound h.os (fun y => h.ev y) hop
      rw [h1, Oper.upon_value]
      exact ⟨_, E, h3, h.set h2 dst⟩
  · -- the others
    obtain ⟨r, z, h1, h2, h3⟩ := aVal_sound h.os (fun y => h.ev y) hop
    rw [h1, Oper.upon_value]
    exact ⟨_, E, h3, h.set h2 dst⟩
theorem yielded_of {ops : List Oper} {j d : Nat} (h : SimC A0 E0 os0 w0 E st a w) (hd : (ops[j]?).bind (·.dst) = some d) :
    (∀ b, st.get d = .v (.bool b) → yielded ops.toArray a.tmps j = some b) ∧ (∀ vs, st.get d = .v (.tuple vs) → yielded ops.toArray a.tmps j = none) := by
  have key : ∀ x, st.get d = .v x → x ≠ undef → a.tmps[d]? = some x := by
    intro x hx hne
    have h1 := h.ev (.tmp d)
    simp only [St.ev, hx] at h1
    generalize hv : a.eval (.tmp d) = v at h1
    cases h1
    simp only [Act.eval, Array.getD] at hv
    split at hv
    · rename_i hlt; rw [Array.getElem?_eq_getElem hlt]; simpa using hv
    · exact absurd hv.symm hne
  refine ⟨fun b hb => ?_, fun vs hvs => ?_⟩
  · have := key _ hb (by simp [undef])
    simp [yielded, hd, this]
  · simp only [yielded, List.getElem?_toArray, hd, Option.bind_some]
    have h1 := h.ev (.tmp d)
    simp only [St.ev, hvs] at h1
    generalize hv : a.eval (.tmp d) = v at h1
    cases h1
    simp only [Act.eval, Array.getD] at hv
    split at hv
    · rename_i hlt
      have : a.tmps[d]? = some (.tuple vs) := by rw [Array.getElem?_eq_getElem hlt]; simpa using hv
      simp [this]
    · rename_i hge
      simp [Array.getElem?_eq_none (Nat.le_of_not_lt hge)]
theorem aWant_sound {ops : List Oper} {o : Oper} {T F : Prop} (h : SimC A0 E0 os0 w0 E st a w) (hw : aWant ops o st T F) :
    (Region.wanted o (yielded ops.toArray a.tmps) = true ∧ T) ∨ (Region.wanted o (yielded ops.toArray a.tmps) = false ∧ F) := by
  unfold aWant at hw
  unfold Region.wanted
  split at hw
  · rename_i hg; rw [hg]; exact .inl ⟨rfl, hw⟩
  · rename_i j want hg
    rw [hg]
    split at hw
    · rename_i hd
      exact .inr ⟨by simp [yielded, hd], hw⟩
    · rename_i d hd
      obtain ⟨h1, h2⟩ := yielded_of h hd
      split at hw
      · rename_i b hb
        simp only [h1 b hb]
        split at hw
        · rename_i hbw; exact .inl ⟨by simp [hbw], hw⟩
        · rename_i hbw; exact .inr ⟨by simp [hbw], hw⟩
      · rename_i vs hvs
        simp only [h2 vs hvs]
        exact .inr ⟨rfl, hw⟩
      · exact hw.elim
theorem aops_sound {ops : List Oper} {Q : Exit → Act → World → Prop} {K : St → Prop} (hQ : ∀ st' E' a' w', K st' → SimC A0 E0 os0 w0 E' st' a' w' → Q .normal a' w') :
    ∀ (l : List Oper) (st : St) (E : Env) (a : Act) (w : World), SimC A0 E0 os0 w0 E st a w → aops P ops l st K → wpList P ops.toArray Q l a w
  | [], st, E, a, w, h, hk => wpList_nil (hQ st E a w hk h)
  | o :: rest, st, E, a, w, h, hk => by
    simp only [aops] at hk
    refine wpList_step fun K' hK' => ?_
    rcases aWant_sound h hk with ⟨h1, h2⟩ | ⟨h1, h2⟩
    · rw [if_pos h1]
      refine Oper.wp_mono (fun a' w' hh => ?_) (aop_sound (Q' := Q) h h2)
      obtain ⟨st', E', q, s⟩ := hh
      exact hK' a' w' (aops_sound hQ rest st' E' a' w' s q)
    · rw [h1]
      simp only [Bool.false_eq_true, if_false]
      exact hK' _ _ (aops_sound hQ rest _ E _ w (h.set (.v _) o.dst) h2)
end
theorem aBin_mono {P : Program} {op : BinOp} {t : Nat} {q : Operand} {x y : AV} {K K' : AV → Prop} (h : ∀ x, K x → K' x) (hk : aBin P op t q x y K) : aBin P op t q x y K' := by
  unfold aBin at hk ⊢
  split at hk
  · cases op <;> first | exact ⟨hk.1, h _ hk.2⟩ | exact ⟨hk.1, hk.2.1, h _ hk.2.2⟩ | exact hk.2.elim
  · split at hk <;> first | exact h _ hk | exact ⟨hk.1, h _ hk.2⟩ | exact hk.elim
  · refine ⟨hk.1, ?_⟩
    have hk := hk.2
    split at hk <;> first | exact h _ hk | exact hk.elim
  · refine ⟨hk.1, ?_⟩
    have hk := hk.2
    split at hk <;> first | exact h _ hk | exact hk.elim
  · refine ⟨hk.1, ?_⟩
    have hk := hk.2
    split at hk <;> first | exact h _ hk | exact hk.elim
  · refine ⟨hk.1, ?_⟩
    have hk := hk.2
    split at hk <;> first | exact h _ hk | exact hk.elim
  · refine ⟨hk.1, ?_⟩
    have hk := hk.2
    split at hk <;> first | exact h _ hk | exact hk.elim
  · refine ⟨hk.1, ?_⟩
    have hk := hk.2
    unfold aEq2 at hk ⊢
    split at hk
    · split at hk <;> first | exact h _ hk | exact hk.elim
    · exact hk.elim
  · refine ⟨hk.1, ?_⟩
    have hk := hk.2
    split at hk <;> first | exact h _ hk | exact hk.elim
  · refine ⟨hk.1, ?_⟩
    have hk := hk.2
    split at hk <;> first | exact h _ hk | exact hk.elim
  · exact hk.elim
theorem aVal_mono {P : Program} {o : Oper} {ev : Operand → AV} {os : Os} {K K' : AV → Prop} (h : ∀ x, K x → K' x) (hk : aVal P o ev os K) : aVal P o ev os K' := by
  have fill : ∀ (pl : List (Nat × Nat)) (parts : List (Nat × AV)) (cs : List AV) (K K' : List AV → Prop), (∀ x, K x → K' x) → aFill pl parts cs K → aFill pl parts cs K' := by
    intro pl parts
    induction parts with
    | nil => intro cs K K' h hk; exact h _ hk
    | cons p rest ih =>
      obtain ⟨i, x⟩ := p
      intro cs K K' h hk
      simp only [aFill] at hk ⊢
      split
      · rename_i hp; rw [hp] at hk; exact hk
      · rename_i hp; rw [hp] at hk; exact ⟨hk.1, hk.2.1, hk.2.2.1, ih _ _ _ h hk.2.2.2⟩
  unfold aVal at hk ⊢
  split at hk
  · exact h _ hk
  · exact h _ hk
  · unfold aBool at hk ⊢
    split at hk
    · rename_i hb; rw [hb]; exact h _ hk
    · exact hk.elim
  · unfold aField at hk ⊢
    split at hk
    · exact hk.elim
    · split at hk <;> first | exact h _ hk | exact hk.elim
  · split at hk
    · unfold aPart at hk ⊢; split at hk <;> first | exact ⟨hk.1, h _ hk.2⟩ | exact hk.elim
    · exact hk.elim
  · unfold aLoad at hk ⊢
    split at hk
    · exact hk.elim
    · split at hk
      · split at hk <;> first | exact ⟨hk.1, h _ hk.2⟩ | exact hk.elim
      · split at hk <;> first | exact ⟨hk.1, hk.2.1, hk.2.2.1, hk.2.2.2.1, h _ hk.2.2.2.2⟩ | exact hk.elim
      · exact ⟨hk.1, h _ hk.2⟩
      · exact hk.elim
  · split at hk <;> first | exact h _ hk | exact hk.elim
  · exact aBin_mono h hk
  · unfold aUn at hk ⊢; split at hk <;> first | exact h _ hk | exact hk.elim
  · unfold aIndexA at hk ⊢
    split at hk
    · split at hk
      · split at hk
        · exact ⟨hk.1, hk.2.1, hk.2.2.1, h _ hk.2.2.2⟩
        · exact ⟨hk.1, hk.2.1, hk.2.2.1, h _ hk.2.2.2⟩
        · split at hk <;> first | exact ⟨hk.1, hk.2.1, hk.2.2.1, hk.2.2.2.1, h _ hk.2.2.2.2⟩ | exact hk.elim
        · exact hk.elim
      · split at hk
        · split at hk <;> first | exact ⟨hk.1, hk.2.1, h _ hk.2.2⟩ | exact hk.elim
        · exact hk.elim
    · exact hk.elim
  · unfold aExtract at hk ⊢; split at hk <;> first | exact ⟨hk.1, h _ hk.2⟩ | exact hk.elim
  · unfold aBuild at hk ⊢
    split at hk
    · exact fill _ _ _ _ _ (fun x hx => h _ hx) hk
    · exact hk.elim
  · unfold aLookup at hk ⊢
    split at hk
    · split at hk <;> first | exact h _ hk | exact hk.elim
    · exact hk.elim
  · exact h _ hk
  · exact h _ hk
  · unfold aLenX at hk ⊢
    split at hk
    · split at hk <;> first | exact ⟨hk.1, h _ hk.2⟩ | exact hk.elim
    · unfold aLen at hk ⊢; split at hk <;> first | exact h _ hk | exact hk.elim
  · exact aMore_mono h hk
theorem aop_mono {P : Program} {o : Oper} {st : St} {K K' : St → Prop} (h : ∀ x, K x → K' x) (hk : aop P o st K) : aop P o st K' := by
  unfold aop at hk ⊢
  split at hk
  · exact ⟨hk.1, h _ hk.2⟩
  · split at hk <;> first | exact h _ hk | exact hk.elim
  · unfold aStore at hk ⊢
    split at hk
    · split at hk <;> first | exact ⟨hk.1, hk.2.1, hk.2.2.1, hk.2.2.2.1, h _ hk.2.2.2.2⟩ | exact hk.elim
    · split at hk <;> first | exact ⟨hk.1, hk.2.1, hk.2.2.1, hk.2.2.2.1, hk.2.2.2.2.1, hk.2.2.2.2.2.1, hk.2.2.2.2.2.2.1, h _ hk.2.2.2.2.2.2.2⟩ | exact hk.elim
    · exact hk.elim
  · unfold aBuildSl at hk ⊢
    split at hk
    · refine ⟨hk.1, hk.2.1, ?_⟩
      have hk := hk.2.2
      split
      · rename_i hn; rw [if_pos hn] at hk; exact h _ hk
      · rename_i hn
        rw [if_neg hn] at hk
        refine ⟨hk.1, ?_⟩
        have hk := hk.2
        split
        · rename_i ha; rw [if_pos ha] at hk; exact h _ hk
        · rename_i ha; rw [if_neg ha] at hk; exact h _ hk
    · exact hk.elim
  · exact h _ hk
  · unfold aMapUpd at hk ⊢
    split at hk
    · split at hk <;> first | exact h _ hk | exact hk.elim
    · exact hk.elim
  · refine ⟨hk.1, ?_⟩
    have hk := hk.2
    unfold aAppend at hk ⊢
    split at hk
    · split at hk
      · obtain ⟨h1, h2, h3, h4, h5, h6, h7, h8, h9⟩ := hk
        exact ⟨h1, h2, h3, h4, h5, h6, h7, h8, h _ h9⟩
      · exact hk.elim
    · exact ⟨hk.1, hk.2.1, hk.2.2.1, hk.2.2.2.1, h _ hk.2.2.2.2⟩
    · split at hk
      · obtain ⟨h1, h2, h3, h4, h5, h6, h7, h8⟩ := hk
        exact ⟨h1, h2, h3, h4, h5, h6, h7, h _ h8⟩
      · exact hk.elim
    · exact hk.elim
  · unfold aCallV at hk ⊢
    split at hk
    · exact hk.mono fun _ _ _ hq => h _ hq
    · exact hk.mono fun _ _ _ hq => h _ hq
    · exact hk.elim
  · unfold aRange at hk ⊢
    split at hk
    · exact ⟨hk.1, h _ hk.2⟩
    · exact hk.elim
  · unfold aNext at hk ⊢
    split at hk
    · split at hk
      · exact h _ hk
      · exact hk.elim
    · exact hk.elim
  · split at hk
    · rename_i hx
      unfold aReslice at hk ⊢
      split at hk
      · exact ⟨hk.1, hk.2.1, hk.2.2.1, hk.2.2.2.1, h _ hk.2.2.2.2⟩
      · exact hk.elim
    · exact aVal_mono (fun x hx => h _ hx) hk
  · exact aVal_mono (fun x hx => h _ hx) hk
theorem aops_chunk {P : Program} {ops : List Oper} (n : Nat) : ∀ {l : List Oper} {st : St} {K : St → Prop}, (∀ K' : St → Prop, (∀ st', aops P ops (l.drop n) st' K → K' st') → aops P ops (l.take n) st K') → aops P ops l st K := by
  have key : ∀ (a b : List Oper) (st : St) (K : St → Prop), aops P ops a st (fun st' => aops P ops b st' K) → aops P ops (a ++ b) st K := by
    intro a
    induction a with
    | nil => intro b st K h; exact h
    | cons o a ih =>
      intro b st K h
      simp only [List.cons_append, aops] at h ⊢
      unfold aWant at h ⊢
      have mono : ∀ st, (aop P o st fun st' => aops P ops a st' fun st' => aops P ops b st' K) → aop P o st fun st' => aops P ops (a ++ b) st' K := by
        intro st h
        have : (fun st' => aops P ops a st' fun st' => aops P ops b st' K) = fun st' => (fun st' => aops P ops a st' fun st' => aops P ops b st' K) st' := rfl
        exact aop_mono (fun st' h => ih b st' K h) h
      split at h
      · exact mono _ h
      · split at h
        · exact ih _ _ _ h
        · split at h
          · split at h
            · rename_i hb; rw [if_pos hb]; exact mono _ h
            · rename_i hb; rw [if_neg hb]; exact ih _ _ _ h
          · exact ih _ _ _ h
          · exact h.elim
  intro l st K h
  have := key (l.take n) (l.drop n) st K (h _ fun _ h => h)
  rwa [List.take_append_drop] at this
theorem aops_case {P : Program} {ops l : List Oper} {st : St} {K : St → Prop} (d : Nat) {b : Bool} (hd : st.get d = .v (.bool b)) (ht : b = true → aops P ops l { st with sl := st.sl.set d (.v (.bool true)) } K)
    (hf : b = false → aops P ops l { st with sl := st.sl.set d (.v (.bool false)) } K) : aops P ops l st K := by
  have e : { st with sl := st.sl.set d (.v (.bool b)) } = st := by
    obtain ⟨sl, os, nx, n0⟩ := st
    congr 1
    simp only [St.get, List.getD_eq_getElem?_getD] at hd
    cases h : sl[d]? with
    | none => rw [h] at hd; cases hd
    | some x =>
      rw [h] at hd
      simp only [Option.getD_some] at hd
      subst hd
      apply List.ext_getElem?
      intro i
      rw [List.getElem?_set]
      by_cases hi : d = i
      · subst hi
        rw [if_pos rfl, h, if_pos (List.getElem?_eq_some_iff.1 h).1]
      · rw [if_neg hi]
  cases b
  · have := hf rfl; rwa [e] at this
  · have := ht rfl; rwa [e] at this
theorem AWp_seqK {ro : Option Nat} {P : Program} {Q : Exit → St → Prop} {st : St} {x y : Code} (h : ∀ K : St → Prop, (∀ st, AWp ro P y Q st → K st) → AWp ro P x (thenQ K Q) st) : AWp ro P (.seq x y) Q st :=
  AWp_seq (h _ fun _ h => h)
theorem AWp_region {ro : Option Nat} {P : Program} {Q : Exit → St → Prop} {st : St} {id : Nat} {l : List Oper} (h : aops P l l st (Q .normal)) : AWp ro P (.region id l.toArray false) Q st :=
  fun hno hnd A0 E0 os0 w0 E a w hs => rn_region_lit hnd (noOut hno) (aops_sound (fun st' E' _ _ q s => ⟨st', E', q, s⟩) l st E a w hs h)
end Go.Proofs.YtmepcmphcghbeaaDoor
