/- Texts of the abstract walk, of the contracts and of the plain laws, packed (part 1 of 48): Ab0. Conditions: none. -/
import Derived.WalkKit
import Derived.OrdersHeld
import Derived.OrdersIn
import Derived.RangeFuncNested
import Derived.RangeFuncBound
import Derived.Scope
namespace Go.Proofs.YtmepcmphcghbeaaDoor
open Go Go.RowKit
set_option linter.unnecessarySimpa false
def rnd (ro : Option Nat) : Fence := { Fence.wide with round := ro }
section
variable {ro : Option Nat} {P : Program} {Q : Exit → Act → World → Prop} {a : Act} {w : World}
theorem calls_rnd {n f : Nat} {args : Array Value} {R : Ending → World → Prop} (h : Calls P f args w R) : CallsIn (rnd ro) n P f args w R := (callsIn_wide (n := n)).2 h
theorem calls_of_rnd {n f : Nat} {args : Array Value} {R : Ending → World → Prop} (h : CallsIn (rnd ro) n P f args w R) : Calls P f args w R := (callsIn_wide (n := n)).1 h
theorem rows_rnd {n : Nat} {row : String} {args : Array Value} {R : Value → World → Prop} (h : Rows P row args w R) : RowsIn (rnd ro) n P row args w R :=
  fun c cs _ => let ⟨v, w', r, s⟩ := h c cs; ⟨v, w', r, stepsIn_wide.2 s⟩
theorem Oper.wpIn_of_wp {o : Oper} {K : Act → World → Prop} (hnd : ∀ c, o.op ≠ .defer c) (h : o.wp P a w K Q) : o.wpIn (rnd ro) 0 P a w K Q := by
  unfold Oper.wp at h
  unfold Oper.wpIn
  refine ⟨fun _ _ => trivial, ?_⟩
  rw [show (rnd ro).round = ro from rfl, Oper.semAt_eq ro _ _ hnd]
  generalize (execOp a.eval o).run P w = r at h ⊢
  cases r with
  | ok n w' =>
    cases n with
    | value v => exact h
    | skip => exact h
    | defer d => exact h
    | enter f args => exact ⟨(fun h => nomatch h), calls_rnd h⟩
    | row r args => exact ⟨(fun h => nomatch h), rows_rnd h⟩
    | _ => exact False.elim h
  | halt x w' => cases x <;> first | exact h | exact False.elim h
def noDef (l : List Oper) : Bool := l.all fun o => match o.op with | .defer _ => false | _ => true
theorem noDef_spec {l : List Oper} (h : noDef l = true) {o : Oper} (ho : o ∈ l) : ∀ c, o.op ≠ .defer c := fun c e => by
  have := List.all_eq_true.1 h o ho
  rw [e] at this
  cases this
def noDefC : Code → Bool
  | .region _ ops _ => noDef ops.toList
  | .seq a b | .cond _ a b | .rangeFunc _ _ a b => noDefC a && noDefC b
  | .block _ c | .loop c | .scope c => noDefC c
  | _ => true
theorem wpOpsIn_of_wpOps {ops : Array Oper} (hnd : noDef ops.toList = true) (hno : ¬ LetsOut Q) : ∀ (l : List Nat) (a : Act) (w : World), wpOps P ops Q l a w → wpOpsIn (rnd ro) 0 P ops Q l a w
  | [], _, _, h => h
  | i :: rest, a, w, h => by
    unfold wpOps at h
    unfold wpOpsIn
    cases ho : ops[i]? with
    | none => simp only [ho] at h ⊢; exact wpOpsIn_of_wpOps hnd hno rest a w h
    | some o =>
      simp only [ho] at h ⊢
      have hm : o ∈ ops.toList := by
        obtain ⟨hlt, rfl⟩ := Array.getElem?_eq_some_iff.1 ho
        exact Array.getElem_mem_toList hlt
      split
      · rename_i hw
        rw [if_pos hw] at h
        rcases h with h | ⟨_, h⟩
        · exact Oper.wpIn_mono (fun a w hh => wpOpsIn_of_wpOps hnd hno rest a w hh) (Oper.wpIn_of_wp (noDef_spec hnd hm) h)
        · exact absurd h hno
      · rename_i hw
        rw [if_neg hw] at h
        exact ⟨fun _ _ => trivial, wpOpsIn_of_wpOps hnd hno rest _ w h⟩
theorem rn_region_lit {id : Nat} {l : List Oper} (hnd : noDef l = true) (hno : ¬ LetsOut Q) (h : wpList P l.toArray Q l a w) : (Code.region id l.toArray false).wpIn (rnd ro) 0 P Q a w := by
  refine wpIn_region (wpOpsIn_of_wpOps (by simpa using hnd) hno _ _ _ ?_)
  rw [List.range_eq_range', ← Array.length_toList, wpOps_eq_wpList l.toArray.toList 0 (by simp)]
  simpa using h
theorem rn_region_any {id : Nat} {ops : Array Oper} (hm : P.follows .mixedOrders = true) (hnd : noDef ops.toList = true) (hno : ¬ LetsOut Q)
    (h : wpAny P .any ops Q ops.size (Array.replicate ops.size false) a { w with drawn := w.drawn + 1 }) : (Code.region id ops true).wpIn (rnd ro) 0 P Q a w :=
  wpIn_region_draw fun t => by
    simp only [Region.schedule, hm, Bool.true_or, if_true]
    exact wpOpsIn_of_wpOps hnd hno _ _ _ (wpAny_sound ops.size t _ a _ h)
theorem rn_region_held {id : Nat} {ops : Array Oper} {S : World → Prop} (hm : P.follows .mixedOrders = true) (hnd : noDef ops.toList = true) (hno : ¬ LetsOut Q)
    (h : wpAnyH P .any ops Q S ops.size (Array.replicate ops.size false) a { w with drawn := w.drawn + 1 }) : (Code.region id ops true).wpIn (rnd ro) 0 P Q a w :=
  rn_region_any hm hnd hno (wpAny_of_held _ _ _ _ h)
end
end Go.Proofs.YtmepcmphcghbeaaDoor
