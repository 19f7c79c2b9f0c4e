/- Texts of the abstract walk, of the contracts and of the plain laws, packed (part 42 of 48): GlS TcL Tq8 Tq9 LsA Tq10 Tq11 Tq8b. Conditions: none. -/
import Derived.Test.YtmepcmphcghbeaaDoorPk41
import Derived.Lib.LaidTab
import Derived.Shelf.LaysM
import Derived.Shelf.LaysC
import Derived.Shelf.Strconv.AtoiAll
import Derived.Shelf.Strconv.ErrVarAll
import Derived.Test.YtmepcmphcghbeaaDoorProg
import Derived.Lib.AtoiErrMem
namespace Go.Proofs.YtmepcmphcghbeaaDoor
open Go
theorem cells_of_strs {H : Type} {enc : TypeId × Value → H} {P : Program} {w : World} {base : Nat} {sp : Nat → Bool} {held : Bool} {fuel : Nat} {t e : TypeId} {n : Nat} {cs : List Value} {ls : List (List UInt8)} {p : List MemPlace}
    (ht : P.underlying t = some (.array n e)) (he : P.underlying e = some .string) (hce : P.cellsOf e = 1) (hct : P.cellsOf t = n)
    (h : DataW.trod enc P w base sp held fuel t cs = some (.agg (ls.map fun l => .lit (.string l)), p)) : cs = ls.map fun l => Value.string ⟨l.toArray⟩ := by
  cases fuel with
  | zero => simp [DataW.trod] at h
  | succ fuel =>
    simp only [DataW.trod, ht, hce, Nat.mul_one] at h
    split at h
    · rename_i hl
      obtain ⟨xs, hm, hx⟩ := Option.map_eq_some_iff.1 h
      have hxs : xs.map (·.1) = ls.map fun l => (DataW.lit (.string l) : DataW H) := by
        have := congrArg Prod.fst hx
        simpa using this
      have hxl : xs.length = n := by simpa using Lib.mapM_length hm
      have hzl : ls.length = n := by
        have := congrArg List.length hxs
        simp at this
        omega
      apply List.ext_getElem?
      intro i
      by_cases hi : i < n
      · obtain ⟨b, hb, hf⟩ := Lib.mapM_at hm i i (by simp [hi])
        obtain ⟨s, hc, rfl, _⟩ := DataW.trod_string he hf
        have h1 : cs[i]? = some (.string s) := by
          have := congrArg (·[0]?) hc
          simpa [List.getElem?_take, List.getElem?_drop] using this
        have h2 : (xs.map (·.1))[i]? = some (DataW.lit (.string s.data.toList) : DataW H) := by simp [hb]
        rw [hxs] at h2
        simp only [List.getElem?_map, Option.map_eq_some_iff, DataW.lit.injEq, Lit.string.injEq] at h2
        obtain ⟨l, hl9, hl8⟩ := h2
        simp [h1, hl9, hl8]
      · rw [List.getElem?_eq_none (by omega), List.getElem?_eq_none (by simp; omega)]
    · cases h
theorem chunks {α β : Type} {f : β → α} {m : Nat} : ∀ (lls : List (List β)) (cs : List α), cs.length = lls.length * m → (∀ (i : Nat) (ls : List β), lls[i]? = some ls → (cs.drop (i * m)).take m = ls.map f) → cs = lls.flatten.map f
  | [], cs, hl, _ => by simp at hl; simp [hl]
  | ls :: r, cs, hl, h => by
    have h0 := h 0 ls rfl
    have hr := chunks (m := m) r (cs.drop m) (by rw [List.length_drop, hl, List.length_cons, Nat.succ_mul]; omega) fun i l hi => by
      have := h (i + 1) l (by simpa using hi)
      rwa [show (i + 1) * m = m + i * m by rw [Nat.succ_mul]; omega, ← List.drop_drop] at this
    simp only [Nat.zero_mul, List.drop_zero] at h0
    rw [List.flatten_cons, List.map_append, ← h0, ← hr, List.take_append_drop]
theorem cells_of_strs2 {H : Type} {enc : TypeId × Value → H} {P : Program} {w : World} {base : Nat} {sp : Nat → Bool} {held : Bool} {fuel : Nat} {t e s : TypeId} {n m : Nat} {cs : List Value} {lls : List (List (List UInt8))} {p : List MemPlace}
    (ht : P.underlying t = some (.array n e)) (he : P.underlying e = some (.array m s)) (hs : P.underlying s = some .string) (hcs : P.cellsOf s = 1) (hce : P.cellsOf e = m) (hct : P.cellsOf t = n * m)
    (h : DataW.trod enc P w base sp held fuel t cs = some (.agg (lls.map fun ls => .agg (ls.map fun l => .lit (.string l))), p)) : cs = lls.flatten.map fun l => Value.string ⟨l.toArray⟩ := by
  cases fuel with
  | zero => simp [DataW.trod] at h
  | succ fuel =>
    simp only [DataW.trod, ht, hce] at h
    split at h
    · rename_i hl
      obtain ⟨xs, hm, hx⟩ := Option.map_eq_some_iff.1 h
      have hxs : xs.map (·.1) = lls.map fun ls => (DataW.agg (ls.map fun l => .lit (.string l)) : DataW H) := by
        have := congrArg Prod.fst hx
        simpa using this
      have hxl : xs.length = n := by simpa using Lib.mapM_length hm
      have hzl : lls.length = n := by
        have := congrArg List.length hxs
        simp at this
        omega
      refine chunks (m := m) lls cs (by rw [hzl]; omega) fun i ls hi => ?_
      have hin : i < n := by rw [← hzl]; exact (List.getElem?_eq_some_iff.1 hi).1
      obtain ⟨b, hb, hf⟩ := Lib.mapM_at hm i i (by simp [hin])
      have h2 : (xs.map (·.1))[i]? = some b.1 := by simp [hb]
      rw [hxs] at h2
      simp only [List.getElem?_map, hi, Option.map_some, Option.some.injEq] at h2
      obtain ⟨b1, b2⟩ := b
      simp only at h2
      subst h2
      exact cells_of_strs he hs hcs hce hf
    · cases h
def StrsIs (P : Program) (w : World) (name : String) (l : List ByteArray) : Prop := w.var? P name = some (l.map fun s => Value.string s).toArray
theorem strsIs_of_head {P : Program} {W : World} {name : String} {lls : List (List (List UInt8))} {l : List ByteArray} {rest : List (String × DataW Unit)} {g : Nat} {t e s : TypeId} {n m : Nat}
    (hg : P.globalNamed name = some g) (hty : (P.globals[g]?).map (·.type) = some t) (ht : P.underlying t = some (.array n e)) (he : P.underlying e = some (.array m s)) (hs : P.underlying s = some .string) (hcs : P.cellsOf s = 1) (hce : P.cellsOf e = m) (hct : P.cellsOf t = n * m)
    (hl : (lls.flatten.map fun l => (⟨l.toArray⟩ : ByteArray)) = l)
    (h : laidMet P ((name, .agg (lls.map fun ls => .agg (ls.map fun l => .lit (.string l)))) :: rest) W) : StrsIs P W name l := by
  obtain ⟨ps, ⟨g', t', cs, fuel, p, q, hg', ht', hvar, hd, _, _⟩, _⟩ := h
  obtain rfl := Option.some.inj (hg.symm.trans hg')
  obtain rfl := Option.some.inj (hty.symm.trans ht')
  unfold StrsIs
  have e9 := cells_of_strs2 ht he hs hcs hce hct hd
  rw [hvar, ← hl, List.map_map]
  show some cs = some (lls.flatten.map fun l => Value.string ⟨l.toArray⟩).toArray
  rw [← e9]
theorem gl_strs {P : Program} {W : World} {name : String} {l : List ByteArray} {g : Nat} {cs : List AV} (h : StrsIs P W name l) (hg : P.globalNamed name = some g) (hz : cs = l.map fun s => AV.v (.string s)) :
    (∀ o : Nat, ¬ (fun (_ _ : Nat) => False) g o) ∧ ∃ us t z, W.heap[g]? = some (.cells us t z) ∧ us.size = cs.length ∧ ∀ (i : Nat) (c : AV) (u : Value), cs[i]? = some c → us[i]? = some u → c.isV u := by
  unfold StrsIs World.var? at h
  rw [hg] at h
  simp only [Option.bind_some] at h
  split at h
  · rename_i us t z hh
    cases h
    refine ⟨fun _ h => h, _, t, z, hh, by simp [hz], fun i c u hc hu => ?_⟩
    subst hz
    simp only [List.getElem?_map, List.getElem?_toArray] at hc hu
    cases hx : l[i]? with
    | none => rw [hx] at hc; cases hc
    | some x => rw [hx] at hc hu; cases hc; cases hu; rfl
  · cases h
end Go.Proofs.YtmepcmphcghbeaaDoor
namespace Go.Proofs.YtmepcmphcghbeaaDoor
open Go Go.RowKit
set_option linter.unusedSimpArgs false
set_option linter.unnecessarySimpa false
set_option linter.unusedVariables false
theorem wordsL_head (m : Nat) (l : List UInt8) : (wordsL (m + 1) l).getD 0 [] = (Lib.cut l [32]).1 := by
  rcases cut1_or 32 l with h | ⟨x, r, rfl, h⟩
  · rw [wordsL_no h, cut1_no h]; rfl
  · rw [wordsL_at h, cut1_at h]; rfl
def mOf (k : Int) : Nat := if k = 1 then 2 else if k = 2 then 4 else 8
def lenOf (k : Int) : Nat := if k = 1 then 3 else if k = 2 then 5 else if k = 5 then 3 else if k = 6 then 4 else 2
def docW (s : ByteArray) (k : Int) : List (List UInt8) := if k = 7 then [] else wordsL (mOf k) (tb s)
def wAt (w : List (List UInt8)) (i : Nat) : ByteArray := ofL (w.getD i [])
def docQ (k : Int) (w : List (List UInt8)) : ActT :=
  { k := k, name := if k < 6 then wAt w 1 else ByteArray.empty
    p1 := if k = 2 then (nuR (w.getD 2 [])).1 else 0, p2 := if k = 2 then (nuR (w.getD 3 [])).1 else 0
    text := if k < 3 then unqS (wAt w (w.length - 1)) else ByteArray.empty
    n := if k = 5 then (nuR (w.getD 2 [])).1 else 0
    lb := if k = 6 then (nuR (w.getD 1 [])).1 else 0, ld := if k = 6 then (nuR (w.getD 2 [])).1 else 0, le := if k = 6 then (nuR (w.getD 3 [])).1 else 0 }
def docG1 (s : ByteArray) (k : Int) (w : List (List UInt8)) : Bool := if k = 7 then decide (tb s = tb (wdS 7)) else decide (w.length = lenOf k)
def docG2 (k : Int) (w : List (List UInt8)) : Bool := if k < 3 then (unqL (tb (wAt w (w.length - 1)))).isSome else true
def docG3 (k : Int) (w : List (List UInt8)) : Bool :=
  if k = 2 then (nuR (w.getD 2 [])).2 && (nuR (w.getD 3 [])).2 else if k = 5 then (nuR (w.getD 2 [])).2
  else if k = 6 then (nuR (w.getD 1 [])).2 && (nuR (w.getD 2 [])).2 && (nuR (w.getD 3 [])).2 else true
def docK (s : ByteArray) : Int := kindOf (ofL ((wordsL 1 (tb s)).getD 0 []))
def docOk (s : ByteArray) : Prop :=
  kndB (docK s) = true ∧ docG1 s (docK s) (docW s (docK s)) = true ∧ docG2 (docK s) (docW s (docK s)) = true ∧ docG3 (docK s) (docW s (docK s)) = true ∧ (docQ (docK s) (docW s (docK s))).err = 0
noncomputable def docA (s : ByteArray) : ActT := by classical exact if docOk s then docQ (docK s) (docW s (docK s)) else ActT.none 0
noncomputable def docB (s : ByteArray) : Bool := by classical exact decide (docOk s)
theorem docK_eq (s : ByteArray) : docK s = kindOf (cutW s) := by
  unfold docK cutW
  rw [wordsL_head 0]
theorem kindOf_inv {f : ByteArray} (h : kndB (kindOf f) = true) : f = wdS (kindOf f) := by
  unfold kindOf at h ⊢
  repeat' split
  all_goals (first | assumption | skip)
  rename_i h1 h2 h3 h4 h5 h6 h7
  rw [if_neg h1, if_neg h2, if_neg h3, if_neg h4, if_neg h5, if_neg h6, if_neg h7] at h
  cases h
theorem doc_yes {s : ByteArray} {a : ActT} (h : IsLine s a) : docOk s ∧ docQ (docK s) (docW s (docK s)) = a := by
  obtain ⟨hf, h0, rfl⟩ := h
  have hkk : docK a.text' = a.k := by rw [docK_eq]; exact (prg_line h0 hf).1
  suffices hs : docW a.text' a.k = (if a.k = 7 then [] else a.ws) ∧ docG1 a.text' a.k (docW a.text' a.k) = true ∧ docG2 a.k (docW a.text' a.k) = true ∧ docG3 a.k (docW a.text' a.k) = true ∧ docQ a.k (docW a.text' a.k) = a by
    obtain ⟨_, g1, g2, g3, g4⟩ := hs
    unfold docOk
    rw [hkk, g4]
    exact ⟨⟨(ActT.ok_of h0).1, g1, g2, g3, h0⟩, rfl⟩
  obtain ⟨hk, h1, h2, h3⟩ := ActT.ok_of h0
  obtain ⟨k, name, p1, p2, text, n, lb, ld, le⟩ := a
  simp only at hk h1 h2 h3 ⊢
  obtain ⟨f1, f2, f3, f4, f5, f6⟩ := hf
  simp only at f1 f2 f3 f4 f5 f6
  unfold ActT.e2 at h2
  simp only [Ne, size0] at h2
  have hnu : ∀ n : Int, I64 n → nuR (Lib.itoa n) = (n, true) := fun n h => nu_itoa h.1 h.2
  rcases kinds hk with rfl | rfl | rfl | rfl | rfl | rfl | rfl
  · have hn := name_no32 (name_of h1 (by simp only; omega) (by simp only; omega))
    simp only at hn
    have hu := unq_qu text
    have hw : docW (ActT.text' ⟨1, name, p1, p2, text, n, lb, ld, le⟩) 1 = [tb (wdS 1), tb name, quL (tb text)] := by
      show wordsL 2 (tb (wdS 1) ++ 32 :: (tb name ++ 32 :: quL (tb text))) = _
      rw [wordsL_at (wd_no32 1), wordsL_at hn]; rfl
    rw [hw]
    refine ⟨rfl, rfl, hu.1, rfl, ?_⟩
    simp only [docQ, ActT.mk.injEq, wAt, List.getD_cons_succ, List.getD_cons_zero, List.length_cons, List.length_nil, Int.reduceLT, Int.reduceEq, ↓reduceIte, true_and, ofL_tb]
    refine ⟨by grind, by grind, hu.2, ?_⟩
    grind
  · have hn := name_no32 (name_of h1 (by simp only; omega) (by simp only; omega))
    simp only at hn
    have hu := unq_qu text
    have hw : docW (ActT.text' ⟨2, name, p1, p2, text, n, lb, ld, le⟩) 2 = [tb (wdS 2), tb name, Lib.itoa p1, Lib.itoa p2, quL (tb text)] := by
      show wordsL 4 (tb (wdS 2) ++ 32 :: (tb name ++ 32 :: (Lib.itoa p1 ++ 32 :: (Lib.itoa p2 ++ 32 :: quL (tb text))))) = _
      rw [wordsL_at (wd_no32 2), wordsL_at hn, wordsL_at (itoa_no32 p1), wordsL_at (itoa_no32 p2)]; rfl
    rw [hw]
    refine ⟨rfl, rfl, hu.1, ?_, ?_⟩
    · show ((nuR (Lib.itoa p1)).2 && (nuR (Lib.itoa p2)).2) = true
      rw [hnu _ f1, hnu _ f2]; rfl
    · simp only [docQ, ActT.mk.injEq, wAt, List.getD_cons_succ, List.getD_cons_zero, List.length_cons, List.length_nil, Int.reduceLT, Int.reduceEq, ↓reduceIte, true_and, ofL_tb, hnu _ f1, hnu _ f2]
      refine ⟨hu.2, ?_⟩
      grind
  · have hn := name_no32 (name_of h1 (by simp only; omega) (by simp only; omega))
    simp only at hn
    have hw : docW (ActT.text' ⟨3, name, p1, p2, text, n, lb, ld, le⟩) 3 = [tb (wdS 3), tb name] := by
      show wordsL 8 (tb (wdS 3) ++ 32 :: tb name) = _
      rw [wordsL_at (wd_no32 3), wordsL_no hn]
    rw [hw]
    have ht : text = ByteArray.empty := Classical.byContradiction fun h => h2 (.inr (.inl ⟨by omega, h⟩))
    subst ht
    refine ⟨rfl, rfl, rfl, rfl, ?_⟩
    simp only [docQ, ActT.mk.injEq, wAt, List.getD_cons_succ, List.getD_cons_zero, List.length_cons, List.length_nil, Int.reduceLT, Int.reduceEq, ↓reduceIte, true_and, ofL_tb]
    grind
  · have hn := name_no32 (name_of h1 (by simp only; omega) (by simp only; omega))
    simp only at hn
    have hw : docW (ActT.text' ⟨4, name, p1, p2, text, n, lb, ld, le⟩) 4 = [tb (wdS 4), tb name] := by
      show wordsL 8 (tb (wdS 4) ++ 32 :: tb name) = _
      rw [wordsL_at (wd_no32 4), wordsL_no hn]
    rw [hw]
    have ht : text = ByteArray.empty := Classical.byContradiction fun h => h2 (.inr (.inl ⟨by omega, h⟩))
    subst ht
    refine ⟨rfl, rfl, rfl, rfl, ?_⟩
    simp only [docQ, ActT.mk.injEq, wAt, List.getD_cons_succ, List.getD_cons_zero, List.length_cons, List.length_nil, Int.reduceLT, Int.reduceEq, ↓reduceIte, true_and, ofL_tb]
    grind
  · have hn := name_no32 (name_of h1 (by simp only; omega) (by simp only; omega))
    simp only at hn
    have hw : docW (ActT.text' ⟨5, name, p1, p2, text, n, lb, ld, le⟩) 5 = [tb (wdS 5), tb name, Lib.itoa n] := by
      show wordsL 8 (tb (wdS 5) ++ 32 :: (tb name ++ 32 :: Lib.itoa n)) = _
      rw [wordsL_at (wd_no32 5), wordsL_at hn, wordsL_no (itoa_no32 n)]
    rw [hw]
    have ht : text = ByteArray.empty := Classical.byContradiction fun h => h2 (.inr (.inl ⟨by omega, h⟩))
    subst ht
    refine ⟨rfl, rfl, rfl, ?_, ?_⟩
    · show (nuR (Lib.itoa n)).2 = true
      rw [hnu _ f3]
    · simp only [docQ, ActT.mk.injEq, wAt, List.getD_cons_succ, List.getD_cons_zero, List.length_cons, List.length_nil, Int.reduceLT, Int.reduceEq, ↓reduceIte, true_and, ofL_tb, hnu _ f3]
      grind
  · have hw : docW (ActT.text' ⟨6, name, p1, p2, text, n, lb, ld, le⟩) 6 = [tb (wdS 6), Lib.itoa lb, Lib.itoa ld, Lib.itoa le] := by
      show wordsL 8 (tb (wdS 6) ++ 32 :: (Lib.itoa lb ++ 32 :: (Lib.itoa ld ++ 32 :: Lib.itoa le))) = _
      rw [wordsL_at (wd_no32 6), wordsL_at (itoa_no32 lb), wordsL_at (itoa_no32 ld), wordsL_no (itoa_no32 le)]
    rw [hw]
    have ht : text = ByteArray.empty := Classical.byContradiction fun h => h2 (.inr (.inl ⟨by omega, h⟩))
    subst ht
    unfold ActT.e1 at h1
    simp only [Ne, size0] at h1
    have hn : name = ByteArray.empty := Classical.byContradiction fun h => h1 (.inr (.inr (.inl ⟨by omega, h⟩)))
    subst hn
    refine ⟨rfl, rfl, rfl, ?_, ?_⟩
    · show ((nuR (Lib.itoa lb)).2 && (nuR (Lib.itoa ld)).2 && (nuR (Lib.itoa le)).2) = true
      rw [hnu _ f4, hnu _ f5, hnu _ f6]; rfl
    · simp only [docQ, ActT.mk.injEq, wAt, List.getD_cons_succ, List.getD_cons_zero, List.length_cons, List.length_nil, Int.reduceLT, Int.reduceEq, ↓reduceIte, true_and, ofL_tb, hnu _ f4, hnu _ f5, hnu _ f6, and_true]
      grind
  · have hw : docW (ActT.text' ⟨7, name, p1, p2, text, n, lb, ld, le⟩) 7 = [] := rfl
    rw [hw]
    have ht : text = ByteArray.empty := Classical.byContradiction fun h => h2 (.inr (.inl ⟨by omega, h⟩))
    subst ht
    unfold ActT.e1 at h1
    simp only [Ne, size0] at h1
    have hn : name = ByteArray.empty := Classical.byContradiction fun h => h1 (.inr (.inr (.inl ⟨by omega, h⟩)))
    subst hn
    refine ⟨rfl, by (unfold docG1; rw [if_pos rfl]; exact decide_eq_true rfl), rfl, rfl, ?_⟩
    simp only [docQ, ActT.mk.injEq, Int.reduceLT, Int.reduceEq, ↓reduceIte, true_and]
    grind
theorem doc_ok {s : ByteArray} (h : docOk s) : IsLine s (docQ (docK s) (docW s (docK s))) := by
  obtain ⟨hk, g1, g2, g3, h0⟩ := h
  have hx := kindOf_inv (f := ofL ((wordsL 1 (tb s)).getD 0 [])) hk
  have hx : (wordsL 1 (tb s)).getD 0 [] = tb (wdS (docK s)) := by rw [← tb_ofL ((wordsL 1 (tb s)).getD 0 []), hx]; rfl
  rw [wordsL_head 0] at hx
  have hh : ∀ m, (wordsL (m + 1) (tb s)).getD 0 [] = tb (wdS (docK s)) := fun m => by rw [wordsL_head, hx]
  have hj : ∀ m, joinW (wordsL m (tb s)) = tb s := fun m => join_words m (tb s)
  have hb0 : I64 0 := ⟨by decide, by decide⟩
  have hi : ∀ l, (nuR l).2 = true → Lib.itoa (nuR l).1 = l ∧ I64 (nuR l).1 := fun l h => ⟨(itoa_nu h).1, (itoa_nu h).2⟩
  have hu : ∀ l, (unqL l).isSome = true → quL (tb (unqS (ofL l))) = l := fun l h => by
    obtain ⟨t, ht⟩ := Option.isSome_iff_exists.1 h
    have h1 := quL_unqL ht
    unfold unqS
    rw [ofL_data, ht]
    exact h1
  refine ⟨?_, h0, ?_⟩
  · revert g3
    generalize docK s = k at *
    intro g3
    unfold docG3 at g3
    rcases kinds hk with rfl | rfl | rfl | rfl | rfl | rfl | rfl <;> simp only [Int.reduceEq, ↓reduceIte, Bool.and_eq_true] at g3 <;> refine ⟨?_, ?_, ?_, ?_, ?_, ?_⟩ <;> simp only [docQ, Int.reduceEq, ↓reduceIte] <;> first | exact hb0 | exact (hi _ g3.1).2 | exact (hi _ g3.2).2 | exact (hi _ g3).2 | exact (hi _ g3.1.1).2 | exact (hi _ g3.1.2).2
  · have e : docW s (docK s) = if docK s = 7 then [] else wordsL (mOf (docK s)) (tb s) := rfl
    generalize docW s (docK s) = w at *
    generalize docK s = k at *
    unfold docG1 at g1
    unfold docG2 at g2
    unfold docG3 at g3
    apply tb_inj
    show joinW (docQ k w).ws = tb s
    rcases kinds hk with rfl | rfl | rfl | rfl | rfl | rfl | rfl
    · simp only [Int.reduceEq, Int.reduceLT, ↓reduceIte, mOf, lenOf, decide_eq_true_eq] at e g1 g2
      have h1 := hh 1; have h2 := hj 2
      rw [← e] at h1 h2
      match w, g1, h1, h2, g2 with
      | [x0, x1, x2], _, h1, h2, g2 =>
        have h1 : x0 = _ := h1
        subst h1
        rw [← h2]
        show joinW [tb (wdS 1), x1, quL (tb (unqS (ofL x2)))] = _
        rw [hu x2 g2]
    · simp only [Int.reduceEq, Int.reduceLT, ↓reduceIte, mOf, lenOf, decide_eq_true_eq] at e g1 g2 g3
      have h1 := hh 3; have h2 := hj 4
      rw [← e] at h1 h2
      match w, g1, h1, h2, g2, g3 with
      | [x0, x1, x2, x3, x4], _, h1, h2, g2, g3 =>
        have h1 : x0 = _ := h1
        subst h1
        rw [← h2]
        have g3 : ((nuR x2).2 && (nuR x3).2) = true := g3
        rw [Bool.and_eq_true] at g3
        show joinW [tb (wdS 2), x1, Lib.itoa (nuR x2).1, Lib.itoa (nuR x3).1, quL (tb (unqS (ofL x4)))] = _
        rw [hu x4 g2, (hi _ g3.1).1, (hi _ g3.2).1]
    · simp only [Int.reduceEq, Int.reduceLT, ↓reduceIte, mOf, lenOf, decide_eq_true_eq] at e g1
      have h1 := hh 7; have h2 := hj 8
      rw [← e] at h1 h2
      match w, g1, h1, h2 with
      | [x0, x1], _, h1, h2 =>
        have h1 : x0 = _ := h1
        subst h1
        rw [← h2]; rfl
    · simp only [Int.reduceEq, Int.reduceLT, ↓reduceIte, mOf, lenOf, decide_eq_true_eq] at e g1
      have h1 := hh 7; have h2 := hj 8
      rw [← e] at h1 h2
      match w, g1, h1, h2 with
      | [x0, x1], _, h1, h2 =>
        have h1 : x0 = _ := h1
        subst h1
        rw [← h2]; rfl
    · simp only [Int.reduceEq, Int.reduceLT, ↓reduceIte, mOf, lenOf, decide_eq_true_eq] at e g1 g3
      have h1 := hh 7; have h2 := hj 8
      rw [← e] at h1 h2
      match w, g1, h1, h2, g3 with
      | [x0, x1, x2], _, h1, h2, g3 =>
        have h1 : x0 = _ := h1
        subst h1
        rw [← h2]
        show joinW [tb (wdS 5), x1, Lib.itoa (nuR x2).1] = _
        rw [(hi x2 g3).1]
    · simp only [Int.reduceEq, Int.reduceLT, ↓reduceIte, mOf, lenOf, decide_eq_true_eq] at e g1 g3
      have h1 := hh 7; have h2 := hj 8
      rw [← e] at h1 h2
      match w, g1, h1, h2, g3 with
      | [x0, x1, x2, x3], _, h1, h2, g3 =>
        have h1 : x0 = _ := h1
        subst h1
        rw [← h2]
        have g3 : ((nuR x1).2 && (nuR x2).2 && (nuR x3).2) = true := g3
        rw [Bool.and_eq_true, Bool.and_eq_true] at g3
        show joinW [tb (wdS 6), Lib.itoa (nuR x1).1, Lib.itoa (nuR x2).1, Lib.itoa (nuR x3).1] = _
        rw [(hi _ g3.1.1).1, (hi _ g3.1.2).1, (hi _ g3.2).1]
    · simp only [↓reduceIte, decide_eq_true_eq] at g1
      rw [g1]; rfl
theorem parse_alike (s : ByteArray) : (∃ a, IsLine s a ∧ prgA s = a ∧ prgE s = 0 ∧ docA s = a ∧ docB s = true) ∨ ((∀ a, ¬ IsLine s a) ∧ prgA s = ActT.none 0 ∧ prgE s = 3 ∧ docA s = ActT.none 0 ∧ docB s = false) := by
  by_cases h : ∃ a, IsLine s a
  · obtain ⟨a, ha⟩ := h
    have h1 := prg_yes ha
    have h2 := doc_yes ha
    refine .inl ⟨a, ha, h1.1, h1.2, ?_, ?_⟩
    · unfold docA; exact (@if_pos _ _ h2.1 _ _ _).trans h2.2
    · unfold docB; exact @decide_eq_true _ (Classical.propDecidable _) h2.1
  · have h0 : ∀ a, ¬ IsLine s a := fun a ha => h ⟨a, ha⟩
    have h1 := prg_no h0
    have h2 : ¬ docOk s := fun h9 => h0 _ (doc_ok h9)
    refine .inr ⟨h0, h1.1, h1.2, ?_, ?_⟩
    · unfold docA; exact @if_neg _ _ h2 _ _ _
    · unfold docB; exact @decide_eq_false _ (Classical.propDecidable _) h2
end Go.Proofs.YtmepcmphcghbeaaDoor
namespace Go.Proofs.YtmepcmphcghbeaaDoor
open Go Go.RowKit
set_option maxRecDepth 100000
set_option maxHeartbeats 4000000
set_option linter.unusedSimpArgs false
set_option linter.unnecessarySimpa false
set_option linter.unusedVariables false
attribute [local irreducible] aops dRun
theorem gl_uses : glEv 0 = .eptr gv0 := by kernel_rfl
theorem ev_glob (st : St) (g : Nat) : st.ev (.global g) = glEv g := rfl
theorem uses_at {k : Int} (h : kndB k = true) : ∃ r, gv0.drop (k.toNat * 2) = .v (.string (wdS k)) :: .v (.string (usS k)) :: r := by
  rcases kinds h with rfl | rfl | rfl | rfl | rfl | rfl | rfl
  · exact ⟨gv0.drop 4, rfl⟩
  · exact ⟨gv0.drop 6, rfl⟩
  · exact ⟨gv0.drop 8, rfl⟩
  · exact ⟨gv0.drop 10, rfl⟩
  · exact ⟨gv0.drop 12, rfl⟩
  · exact ⟨gv0.drop 14, rfl⟩
  · exact ⟨gv0.drop 16, rfl⟩
theorem usS_asc (k : Int) : ascB (usS k) = true := by
  unfold usS
  repeat' split
  all_goals decide
theorem usS_size (k : Int) : (usS k).size ≤ 4 := by
  unfold usS
  repeat' split
  all_goals decide
theorem wdS_size (k : Int) : (wdS k).size ≤ 5 := by
  unfold wdS
  repeat' split
  all_goals decide
theorem quS_size (s : ByteArray) : (quS s).size ≤ 3 * s.size + 2 := by
  unfold quS
  rw [ofL_size]
  have := quL_len (tb s)
  rwa [tb_len] at this
def lineK (a : ActT) (k : Nat) : ByteArray := lineF a (wdS a.k) ((tb (usS a.k)).take k)
theorem lineK_zero (a : ActT) : lineK a 0 = wdS a.k := rfl
theorem lineK_succ {a : ActT} {k : Nat} (h : k < (usS a.k).size) {c : UInt8} (hc : ((usS a.k)[k]?).getD 0 = c) : lineK a (k + 1) = lineS a (lineK a k) c.toNat := by
  unfold lineK lineF tb
  rw [tk_succ h hc, List.foldl_append]; rfl
theorem lineK_all {a : ActT} (hk : kndB a.k = true) {k : Nat} (h : ¬ k < (usS a.k).size) : lineK a k = a.text' := by
  unfold lineK
  rw [List.take_of_length_le (by rw [tb_len]; omega)]
  exact lineF_all hk
theorem size_add (a b : ByteArray) : (a ++ b).size = a.size + b.size := ByteArray.size_append
theorem lineS_size {a : ActT} (hf : a.fits) (h1 : a.name.size ≤ 1048576) (h2 : a.text.size ≤ 4096) (w : ByteArray) (c : Nat) : (lineS a w c).size ≤ w.size + 1100000 := by
  obtain ⟨f1, f2, f3, f4, f5, f6⟩ := hf
  have e1 := itS_size a.p1 f1.1 f1.2
  have e2 := itS_size a.p2 f2.1 f2.2
  have e3 := itS_size a.n f3.1 f3.2
  have e4 := itS_size a.lb f4.1 f4.2
  have e5 := itS_size a.ld f5.1 f5.2
  have e6 := itS_size a.le f6.1 f6.2
  have e7 := quS_size a.text
  have e8 : spS.size = 1 := rfl
  unfold lineS
  repeat' split
  all_goals first | (simp only [size_add]; omega) | omega
theorem lineK_size {a : ActT} (hf : a.fits) (h1 : a.name.size ≤ 1048576) (h2 : a.text.size ≤ 4096) : ∀ k, k ≤ (usS a.k).size → (lineK a k).size ≤ 5 + k * 1100000
  | 0, _ => by rw [lineK_zero]; have := wdS_size a.k; omega
  | k + 1, hk => by
    rw [lineK_succ (by omega) rfl]
    have h3 := lineK_size hf h1 h2 k (by omega)
    have h4 := lineS_size hf h1 h2 (lineK a k) ((((usS a.k)[k]?).getD 0).toNat)
    omega
def lineA (a : ActT) : AV := .tup [.v (.string a.line), .v (.int .i64 a.err)]
theorem lineA_err {a : ActT} {e : Int} (h : a.err = e) (h1 : e ≠ 0) : lineA a = .tup [.v (.string ByteArray.empty), .v (.int .i64 e)] := by
  unfold lineA ActT.line
  rw [h, if_neg h1]
theorem lineA_ok {a : ActT} (h : a.err = 0) : lineA a = .tup [.v (.string a.text'), .v (.int .i64 0)] := by
  unfold lineA ActT.line
  rw [h, if_pos rfl]
theorem ActT.no1 {a : ActT} (h : (!a.eqB (bareA a (usS a.k))) = true) : a.no = true := by unfold ActT.no; rw [h]; rfl
theorem ActT.no2 {a : ActT} (h : decide (0 ≤ Lib.indexByte (tb (usS a.k)) 110) = true) (h1 : (!nameB a.name) = true) : a.no = true := by unfold ActT.no; rw [h, h1]; simp
theorem ActT.yes1 {a : ActT} (h : (!a.eqB (bareA a (usS a.k))) = false) (h1 : (!nameB a.name) = false) : a.no = false := by unfold ActT.no; rw [h, h1]; simp
theorem ActT.yes2 {a : ActT} (h : (!a.eqB (bareA a (usS a.k))) = false) (h1 : decide (0 ≤ Lib.indexByte (tb (usS a.k)) 110) = false) : a.no = false := by unfold ActT.no; rw [h, h1]; simp
theorem ActT.name20e {a : ActT} (h1 : ¬ a.e1) : a.name.size ≤ 20 := by
  unfold ActT.e1 at h1
  by_cases hk : 1 ≤ a.k ∧ a.k ≤ 5
  · cases hb : nameB a.name with
    | false => exact absurd (.inr (.inr (.inr ⟨hk, hb⟩))) h1
    | true =>
      unfold nameB at hb
      simp only [Bool.and_eq_true, decide_eq_true_eq] at hb
      exact hb.1.2
  · rcases Nat.eq_zero_or_pos a.name.size with h | h
    · omega
    · exact absurd (.inr (.inr (.inl ⟨hk, by omega⟩))) h1
theorem ActT.name20 {a : ActT} (h : kndB a.k = true) (h1 : a.no = false) : a.name.size ≤ 20 :=
  ActT.name20e fun h2 => by rw [(ActT.no_iff h).2 (.inl h2)] at h1; cases h1
theorem ActT.data (a : ActT) : DataL a.cells := .cons (.v _) (.cons (.v _) (.cons (.v _) (.cons (.v _) (.cons (.v _) (.cons (.v _) (.cons (.v _) (.cons (.v _) (.cons (.v _) .nil))))))))
theorem lineA_data (a : ActT) : Data (lineA a) := .tup (.cons (.v _) (.cons (.v _) .nil))
theorem TLine_pure (a : ActT) (hf : a.fits) (hn : a.name.size ≤ 9223372036854775807) (ht0 : a.text.size ≤ 9223372036854775807) : APure Tryd.prog 16 [.agg a.cells] (lineA a) := by
  refine APure.mkL (.cons a.dataAgg .nil) ((lineA_data a)) ?_
  refine ACalls_intro Tryd.func16 (by kernel_rfl) rfl (by rw [Tryd.ntmps16]; simp) (fun hm => ?_)
  simp only [Tryd.ntmps16, Tryd.results16, List.length_cons, List.length_nil, Nat.reduceAdd, Nat.reduceSub, List.replicate_succ, List.replicate_zero, List.cons_append, List.nil_append]
  have hf0 := hf
  obtain ⟨f1, f2, f3, f4, f5, f6⟩ := hf0
  refine AWp_joinZ (mB 108 2) ([(1, .eptr a.cells)]) [] 0 (True) ?_ (fun hC => ?_)
  ·
   refine AWp_region ?_
   iterate 2 (refine aops_chunk 1 fun Q0 q0 => ?_; simp only [↓bO, go_sem, seval, ActT.cells, gl_uses, ev_glob]; refine q0 _ ?_; clear q0 Q0; simp only [go_sem])
   simp only [↓bO, go_sem, seval, ActT.cells, gl_uses, ev_glob]
   try simp only [maskL, setsL, putsO, putO, mB, List.set_cons_zero, List.set_cons_succ, seval]
   first | refine ⟨trivial, ?_⟩ | skip
   refine Weak.freeze ?_ trivial (by first | omega | (simp only; omega)) (by first | omega | (simp only; omega)) ?_ ?_
   · repeat' first | trivial | exact .inr ⟨_, _, _, rfl, rfl, rfl, rfl⟩ | exact .inl (.refl _) | exact .inl (.any _) | (refine ⟨?_, ?_⟩)
   · repeat' first | exact trivial | exact .any _ | exact .v _ _ | exact .ptr (by omega) | exact Und.data (.eptr (ActT.data _)) | (refine ⟨?_, ?_⟩)
   · repeat' first | exact trivial | (with_reducible omega) | exact .v _ _ | (refine ⟨?_, ?_⟩)
  simp only [maskL, setsL, putsO, putO, mB, List.set_cons_zero, List.set_cons_succ, seval]
  refine AWp_seqK fun Y0 y0 => ?_
  refine AWp_seqK fun Y1 y1 => ?_
  refine AWp_region ?_
  iterate 2 (refine aops_chunk 1 fun Q0 q0 => ?_; simp only [↓bO, go_sem, seval, ActT.cells, gl_uses, ev_glob]; refine q0 _ ?_; clear q0 Q0; simp only [go_sem])
  refine aops_chunk 1 fun Q0 q0 => ?_
  simp only [↓bO, go_sem, seval, ActT.cells, gl_uses, ev_glob]
  refine APure.call (TKnown_pure a.k) ?_
  try simp only [bS, bA, thenQ, blockQ, noGotoQ]
  refine q0 _ ?_
  clear q0 Q0
  simp only [go_sem]
  simp only [↓bO, go_sem, seval, ActT.cells, gl_uses, ev_glob]
  refine y1 _ ?_
  try clear y1 Y1
  refine AWp_cond rfl (fun hb11 => ?_) (fun hb11 => ?_)
  ·
   have hk0 : kndB a.k = false := (by have h9 := hb11; simpa using h9)
   refine AWp_seqK fun Y1 y1 => ?_
   refine AWp_region ?_
   refine aops_chunk 1 fun Q0 q0 => ?_
   simp only [↓bO, go_sem, seval, ActT.cells, gl_uses, ev_glob]
   refine q0 _ ?_
   clear q0 Q0
   simp only [go_sem]
   simp only [↓bO, go_sem, seval, ActT.cells, gl_uses, ev_glob]
   refine y1 _ ?_
   try clear y1 Y1
   refine AWp_ret ?_
   try simp only [thenQ, blockQ, noGotoQ, retQ, aRes, tupOf, bS, bA]
   rw [lineA_err (ActT.err_bad hk0) (by decide)]
   exact Le.refl _
  ·
   have hk1 : kndB a.k = true := (by have h9 := hb11; simpa using h9)
   obtain ⟨r, hgk⟩ := uses_at hk1
   have hkk := kinds hk1
   have hkg : (0 ≤ a.k) = True := eq_true (by omega)
   have hkl : (a.k < 8) = True := eq_true (by omega)
   have hus := usS_size a.k
   refine AWp_skip ?_
   try simp only [thenQ, blockQ, noGotoQ]
   refine y0 _ ?_
   try clear y0 Y0
   refine AWp_seqK fun Y0 y0 => ?_
   refine RAny_start 12 rfl mixed ?_
   dsimp only
   refine RAny_takeK 0 rfl (by kernel_rfl) (by kernel_rfl) (by kernel_rfl) (fun _ _ h => h) fun Q0 q0 => ?_
   simp only [↓bO, go_sem, seval, rHead, isE, isPE, isSE, isSl, ActT.cells, gl_uses, ev_glob, hgk, hkg, hkl]
   refine q0 _ ?_
   clear q0 Q0
   refine RAny_takeK 1 rfl (by kernel_rfl) (by kernel_rfl) (by kernel_rfl) (fun _ _ h => h) fun Q0 q0 => ?_
   simp only [↓bO, go_sem, seval, rHead, isE, isPE, isSE, isSl, ActT.cells, gl_uses, ev_glob, hgk, hkg, hkl]
   refine q0 _ ?_
   clear q0 Q0
   refine RAny_takeK 2 rfl (by kernel_rfl) (by kernel_rfl) (by kernel_rfl) (fun _ _ h => h) fun Q0 q0 => ?_
   simp only [↓bO, go_sem, seval, rHead, isE, isPE, isSE, isSl, ActT.cells, gl_uses, ev_glob, hgk, hkg, hkl]
   refine q0 _ ?_
   clear q0 Q0
   refine RAny_takeK 3 rfl (by kernel_rfl) (by kernel_rfl) (by kernel_rfl) (fun _ _ h => h) fun Q0 q0 => ?_
   simp only [↓bO, go_sem, seval, rHead, isE, isPE, isSE, isSl, ActT.cells, gl_uses, ev_glob, hgk, hkg, hkl]
   refine q0 _ ?_
   clear q0 Q0
   refine RAny_takeK 4 rfl (by kernel_rfl) (by kernel_rfl) (by kernel_rfl) (fun _ _ h => h) fun Q0 q0 => ?_
   simp only [↓bO, go_sem, seval, rHead, isE, isPE, isSE, isSl, ActT.cells, gl_uses, ev_glob, hgk, hkg, hkl]
   refine q0 _ ?_
   clear q0 Q0
   refine RAny_takeK 5 rfl (by kernel_rfl) (by kernel_rfl) (by kernel_rfl) (fun _ _ h => h) fun Q0 q0 => ?_
   simp only [↓bO, go_sem, seval, rHead, isE, isPE, isSE, isSl, ActT.cells, gl_uses, ev_glob, hgk, hkg, hkl]
   refine q0 _ ?_
   clear q0 Q0
   refine RAny_takeK 6 rfl (by kernel_rfl) (by kernel_rfl) (by kernel_rfl) (fun _ _ h => h) fun Q0 q0 => ?_
   simp only [↓bO, go_sem, seval, rHead, isE, isPE, isSE, isSl, ActT.cells, gl_uses, ev_glob, hgk, hkg, hkl]
   refine q0 _ ?_
   clear q0 Q0
   refine RAny_takeK 7 rfl (by kernel_rfl) (by kernel_rfl) (by kernel_rfl) (fun _ _ h => h) fun Q0 q0 => ?_
   simp only [↓bO, go_sem, seval, rHead, isE, isPE, isSE, isSl, ActT.cells, gl_uses, ev_glob, hgk, hkg, hkl]
   refine q0 _ ?_
   clear q0 Q0
   refine RAny_takeK 8 rfl (by kernel_rfl) (by kernel_rfl) (by kernel_rfl) (fun _ _ h => h) fun Q0 q0 => ?_
   simp only [↓bO, go_sem, seval, rHead, isE, isPE, isSE, isSl, ActT.cells, gl_uses, ev_glob, hgk, hkg, hkl]
   refine q0 _ ?_
   clear q0 Q0
   refine RAny_takeK 9 rfl (by kernel_rfl) (by kernel_rfl) (by kernel_rfl) (fun _ _ h => h) fun Q0 q0 => ?_
   simp only [↓bO, go_sem, seval, rHead, isE, isPE, isSE, isSl, ActT.cells, gl_uses, ev_glob, hgk, hkg, hkl]
   refine q0 _ ?_
   clear q0 Q0
   refine RAny_rest ?_
   refine LAny_all1 (i := 10) (by kernel_rfl) ?_
   ·
    refine aAt_op rfl rfl fun Q0 q0 => ?_
    simp only [↓bO, go_sem, seval, ActT.cells, gl_uses, ev_glob, hgk, hkg, hkl]
    refine q0 _ ?_
    clear q0 Q0
    refine LAny_all1 (i := 11) (by kernel_rfl) ?_
    ·
     refine aAt_op rfl rfl fun Q0 q0 => ?_
     simp only [↓bO, go_sem, seval, ActT.cells, gl_uses, ev_glob, hgk, hkg, hkl]
     refine q0 _ ?_
     clear q0 Q0
     refine LAny_done (by kernel_rfl) ?_
     simp only [thenQ, blockQ, noGotoQ]
     refine y0 _ ?_
     try clear y0 Y0
     refine AWp_seqK fun Y0 y0 => ?_
     refine AWp_block ?_
     refine AWp_seqK fun Y1 y1 => ?_
     refine AWp_seqK fun Y2 y2 => ?_
     refine AWp_drawK 5 mixed (by kernel_rfl) fun J0 j0 => ?_
     iterate 3 (simp only [go_sem]; refine dRun_chunk 1 fun Q0 q0 => ?_; simp only [↓dRun, ↓dOp, ↓bO, go_sem, seval, ActT.cells, gl_uses, ev_glob, hgk, hkg, hkl]; refine q0 _ ?_; clear q0 Q0)
     simp only [go_sem]
     refine dRun_chunk 1 fun Q0 q0 => ?_
     simp only [↓dRun, ↓dOp, ↓bO, go_sem, seval, ActT.cells, gl_uses, ev_glob, hgk, hkg, hkl]
     refine ⟨_, TBare_pure a (usS a.k) (usS_asc _) (by omega), ?_⟩
     try simp only [bS, bA, thenQ, blockQ, noGotoQ]
     refine q0 _ ?_
     clear q0 Q0
     simp only [go_sem]
     simp only [↓dRun, ↓dOp, ↓bO, go_sem, seval, i2t30, aEq2, eqt30, ActT.cells, gl_uses, ev_glob, hgk, hkg, hkl]
     refine j0 _ ?_
     clear j0 J0
     simp only [go_sem]
     simp only [↓bO, go_sem, seval, ActT.cells, gl_uses, ev_glob, hgk, hkg, hkl]
     refine y2 _ ?_
     try clear y2 Y2
     refine AWp_cond rfl (fun hb22 => ?_) (fun hb22 => ?_)
     ·
      have hno : a.no = true := by (first | exact ActT.no1 hb22 | exact ActT.no2 hc30 hb22)
      refine AWp_skip ?_
      try simp only [thenQ, blockQ, noGotoQ]
      refine y1 _ ?_
      try clear y1 Y1
      refine AWp_cond (b := true) (by first | exact rfl | exact congrArg (fun b => AV.v (.bool b)) hb22) (fun _ => ?_) (fun h => (by cases h))
      refine AWp_seqK fun Y1 y1 => ?_
      refine AWp_region ?_
      refine aops_chunk 1 fun Q0 q0 => ?_
      simp only [↓bO, go_sem, seval, ActT.cells, gl_uses, ev_glob, hgk, hkg, hkl]
      refine q0 _ ?_
      clear q0 Q0
      simp only [go_sem]
      simp only [↓bO, go_sem, seval, ActT.cells, gl_uses, ev_glob, hgk, hkg, hkl]
      refine y1 _ ?_
      try clear y1 Y1
      refine AWp_ret ?_
      try simp only [thenQ, blockQ, noGotoQ, retQ, aRes, tupOf, bS, bA]
      rw [lineA_err (ActT.err_no hk1 hno) (by decide)]
      exact Le.refl _
     ·
      refine AWp_region ?_
      refine aops_chunk 1 fun Q0 q0 => ?_
      simp only [↓bO, go_sem, seval, ActT.cells, gl_uses, ev_glob, hgk, hkg, hkl]
      refine q0 _ ?_
      clear q0 Q0
      simp only [go_sem]
      refine aops_chunk 1 fun Q0 q0 => ?_
      simp only [↓bO, go_sem, seval, ActT.cells, gl_uses, ev_glob, hgk, hkg, hkl]
      refine APure.call (Cont_pure (usS a.k) 110) ?_
      try simp only [bS, bA, thenQ, blockQ, noGotoQ]
      refine q0 _ ?_
      clear q0 Q0
      simp only [go_sem]
      refine aops_chunk 1 fun Q0 q0 => ?_
      simp only [↓bO, go_sem, seval, ActT.cells, gl_uses, ev_glob, hgk, hkg, hkl]
      refine q0 _ ?_
      clear q0 Q0
      simp only [go_sem]
      refine aops_case 30 rfl (fun hc30 => ?_) (fun hc30 => ?_)
      ·
       simp only [List.set_cons_zero, List.set_cons_succ]
       have hE := hb22
       iterate 2 (refine aops_chunk 1 fun Q0 q0 => ?_; simp only [↓bO, go_sem, seval, ActT.cells, gl_uses, ev_glob, hgk, hkg, hkl]; refine q0 _ ?_; clear q0 Q0; simp only [go_sem])
       refine aops_chunk 1 fun Q0 q0 => ?_
       simp only [↓bO, go_sem, seval, ActT.cells, gl_uses, ev_glob, hgk, hkg, hkl]
       refine APure.call (LName_pure a.name hn) ?_
       try simp only [bS, bA, thenQ, blockQ, noGotoQ]
       iterate 2 (refine q0 _ ?_; clear q0 Q0; simp only [go_sem]; refine aops_chunk 1 fun Q0 q0 => ?_; simp only [↓bO, go_sem, seval, ActT.cells, gl_uses, ev_glob, hgk, hkg, hkl])
       refine q0 _ ?_
       clear q0 Q0
       simp only [go_sem]
       simp only [↓bO, go_sem, seval, ActT.cells, gl_uses, ev_glob, hgk, hkg, hkl]
       refine y1 _ ?_
       try clear y1 Y1
       refine AWp_cond rfl (fun hb22 => ?_) (fun hb22 => ?_)
       ·
        have hno : a.no = true := by (first | exact ActT.no1 hb22 | exact ActT.no2 hc30 hb22)
        refine AWp_seqK fun Y1 y1 => ?_
        refine AWp_region ?_
        refine aops_chunk 1 fun Q0 q0 => ?_
        simp only [↓bO, go_sem, seval, ActT.cells, gl_uses, ev_glob, hgk, hkg, hkl]
        refine q0 _ ?_
        clear q0 Q0
        simp only [go_sem]
        simp only [↓bO, go_sem, seval, ActT.cells, gl_uses, ev_glob, hgk, hkg, hkl]
        refine y1 _ ?_
        try clear y1 Y1
        refine AWp_ret ?_
        try simp only [thenQ, blockQ, noGotoQ, retQ, aRes, tupOf, bS, bA]
        rw [lineA_err (ActT.err_no hk1 hno) (by decide)]
        exact Le.refl _
       ·
        refine AWp_seqK fun Y1 y1 => ?_
        refine AWp_region ?_
        iterate 4 (refine aops_chunk 1 fun Q0 q0 => ?_; simp only [↓bO, go_sem, seval, ActT.cells, gl_uses, ev_glob, hgk, hkg, hkl]; refine q0 _ ?_; clear q0 Q0; simp only [go_sem])
        simp only [↓bO, go_sem, seval, ActT.cells, gl_uses, ev_glob, hgk, hkg, hkl]
        refine y1 _ ?_
        try clear y1 Y1
        refine AWp_cond rfl (fun hb36 => ?_) (fun hb36 => ?_)
        ·
         have hyes : a.no = false := by (first | exact ActT.yes1 hE hb22 | exact ActT.yes2 hE hc30)
         have hlong : a.text.size > 4096 := (by have h9 := hb36; simp at h9; omega)
         refine AWp_seqK fun Y1 y1 => ?_
         refine AWp_region ?_
         refine aops_chunk 1 fun Q0 q0 => ?_
         simp only [↓bO, go_sem, seval, ActT.cells, gl_uses, ev_glob, hgk, hkg, hkl]
         refine q0 _ ?_
         clear q0 Q0
         simp only [go_sem]
         simp only [↓bO, go_sem, seval, ActT.cells, gl_uses, ev_glob, hgk, hkg, hkl]
         refine y1 _ ?_
         try clear y1 Y1
         refine AWp_ret ?_
         try simp only [thenQ, blockQ, noGotoQ, retQ, aRes, tupOf, bS, bA]
         rw [lineA_err ((ActT.err_yes hk1 hyes).trans (if_pos hlong)) (by decide)]
         exact Le.refl _
        ·
         have hyes : a.no = false := by (first | exact ActT.yes1 hE hb22 | exact ActT.yes2 hE hc30)
         have ht : a.text.size ≤ 4096 := (by have h9 := hb36; simp at h9; omega)
         have hn20 := ActT.name20 hk1 hyes
         have hn1 : a.name.size ≤ 1048576 := by omega
         refine AWp_skip ?_
         try simp only [thenQ, blockQ, noGotoQ]
         refine y0 _ ?_
         try clear y0 Y0
         refine AWp_seqK fun Y0 y0 => ?_
         refine AWp_seqK fun Y1 y1 => ?_
         refine AWp_region ?_
         refine aops_chunk 1 fun Q0 q0 => ?_
         simp only [↓bO, go_sem, seval, ActT.cells, gl_uses, ev_glob, hgk, hkg, hkl]
         refine q0 _ ?_
         clear q0 Q0
         simp only [go_sem]
         simp only [↓bO, go_sem, seval, aRange, ActT.cells, gl_uses, ev_glob, hgk, hkg, hkl]
         refine y1 _ ?_
         try clear y1 Y1
         refine AWp_block ?_
         refine AWp_loopM (σ := Nat) (mB 108 4398046511122) (fun k => k ≤ (usS a.k).size) (fun k => [(4, .v (.string (lineK a k)))]) (fun k => [(0, .raw (.stringIter (usS a.k) k))]) (fun k => (usS a.k).size - k) 0 (by omega) ?_ (fun k hk => ?_)
         ·
          try simp only [maskL, setsL, putsO, putO, mB, List.set_cons_zero, List.set_cons_succ, seval, lineK_zero]
          exact Weak.mk (by simp only [go_sem, Le.refl, Le.any, Le.slNil, Int.natCast_add, Int.cast_ofNat_Int, Int.natCast_one]) (fun _ _ h => h) rfl rfl
         simp only [maskL, setsL, putsO, putO, mB, List.set_cons_zero, List.set_cons_succ, seval]
         refine AWp_seqK fun Y1 y1 => ?_
         refine AWp_region ?_
         refine aops_chunk 1 fun Q0 q0 => ?_
         simp only [↓bO, go_sem, seval, aNext, aExtract_next, ActT.cells, gl_uses, ev_glob, hgk, hkg, hkl]
         refine q0 _ ?_
         clear q0 Q0
         simp only [go_sem]
         simp only [↓bO, go_sem, seval, aExtract_tup, ActT.cells, gl_uses, ev_glob, hgk, hkg, hkl]
         refine y1 _ ?_
         try clear y1 Y1
         refine AWp_seqK fun Y1 y1 => ?_
         refine AWp_cond rfl (fun hb44 => ?_) (fun hb44 => ?_)
         ·
          have hlt : k < (usS a.k).size := (by have h9 := hb44; simpa using h9)
          obtain ⟨c, hc⟩ : ∃ c, ((usS a.k)[k]?).getD 0 = c := ⟨_, rfl⟩
          have hda := asc_at (usS_asc a.k) hlt
          rw [hc] at hda
          have hnv : nextV (usS a.k) k = .tup [.v (.bool true), .v (.int .i64 (k : Int)), .v (.int .i32 (c.toNat : Int))] := by rw [nextV, if_pos hlt, hda]
          have hnp : nextP (usS a.k) k = k + 1 := by rw [nextP, if_pos hlt, hda]
          have hbk := lineK_succ (a := a) hlt hc
          have hks := lineK_size hf hn1 ht k (by omega)
          have sp1 : ((⟨#[32]⟩ : ByteArray) : ByteArray).size = 1 := rfl
          have sp2 : (#[32] : Array UInt8).size = 1 := rfl
          have e1 := itS_size a.p1 f1.1 f1.2
          have e2 := itS_size a.p2 f2.1 f2.2
          have e3 := itS_size a.n f3.1 f3.2
          have e4 := itS_size a.lb f4.1 f4.2
          have e5 := itS_size a.ld f5.1 f5.2
          have e6 := itS_size a.le f6.1 f6.2
          have e7 := quS_size a.text
          have hqs : ofL (quL a.text.data.toList) = quS a.text := rfl
          refine AWp_skip ?_
          try simp only [thenQ, blockQ, noGotoQ]
          refine y1 _ ?_
          try clear y1 Y1
          refine AWp_block ?_
          refine AWp_seqK fun Y1 y1 => ?_
          refine AWp_region ?_
          refine aops_chunk 1 fun Q0 q0 => ?_
          simp only [↓bO, go_sem, seval, aExtract_tup, ActT.cells, gl_uses, ev_glob, hgk, hkg, hkl, hnv, hnp, hbk, hqs]
          refine q0 _ ?_
          clear q0 Q0
          simp only [go_sem]
          simp only [↓bO, go_sem, seval, ActT.cells, gl_uses, ev_glob, hgk, hkg, hkl, hnv, hnp, hbk, hqs]
          refine y1 _ ?_
          try clear y1 Y1
          refine AWp_seqK fun Y1 y1 => ?_
          refine AWp_region ?_
          simp only [↓bO, go_sem, seval, ActT.cells, gl_uses, ev_glob, hgk, hkg, hkl, hnv, hnp, hbk, hqs]
          refine y1 _ ?_
          try clear y1 Y1
          refine AWp_block ?_
          refine AWp_seqK fun Y1 y1 => ?_
          refine AWp_region ?_
          refine aops_chunk 1 fun Q0 q0 => ?_
          simp only [↓bO, go_sem, seval, ActT.cells, gl_uses, ev_glob, hgk, hkg, hkl, hnv, hnp, hbk, hqs]
          refine q0 _ ?_
          clear q0 Q0
          simp only [go_sem]
          simp only [↓bO, go_sem, seval, ActT.cells, gl_uses, ev_glob, hgk, hkg, hkl, hnv, hnp, hbk, hqs]
          refine y1 _ ?_
          try clear y1 Y1
          refine AWp_cond rfl (fun hb47 => ?_) (fun hb47 => ?_)
          ·
           have e110 : c.toNat = 110 := (by have h9 := hb47; simp at h9; omega)
           have hnx : lineS a (lineK a k) c.toNat = lineK a k ++ ((⟨#[32]⟩ : ByteArray) ++ a.name) := by (unfold lineS; rw [if_pos e110]; rfl)
           have hm1 : (((((#[32] : Array UInt8).size + (a.name).size) : Nat) : Int) ≤ IntKind.i64.max) = True := eq_true (by (show ((((#[32] : Array UInt8).size + (a.name).size) : Nat) : Int) ≤ 9223372036854775807); omega)
           have hm2 : (((((lineK a k).size + ((#[32] : Array UInt8).size + (a.name).size)) : Nat) : Int) ≤ IntKind.i64.max) = True := eq_true (by (show ((((lineK a k).size + ((#[32] : Array UInt8).size + (a.name).size)) : Nat) : Int) ≤ 9223372036854775807); omega)
           refine AWp_region ?_
           iterate 5 (refine aops_chunk 1 fun Q0 q0 => ?_; simp only [↓bO, go_sem, seval, ActT.cells, gl_uses, ev_glob, hgk, hkg, hkl, hnv, hnp, hbk, hqs, hnx, hm1, hm2]; refine q0 _ ?_; clear q0 Q0; simp only [go_sem])
           simp only [↓bO, go_sem, seval, ActT.cells, gl_uses, ev_glob, hgk, hkg, hkl, hnv, hnp, hbk, hqs, hnx, hm1, hm2]
           refine ⟨(k + 1), (by omega), by omega, ?_⟩
           try simp only [maskL, setsL, putsO, putO, mB, List.set_cons_zero, List.set_cons_succ, seval, ActT.cells, hgk, hkg, hkl, hnv, hnp, hbk, hqs, hnx, hm1, hm2]
           exact Weak.mk (by simp only [go_sem, Le.refl, Le.any, Le.slNil, Int.natCast_add, Int.cast_ofNat_Int, Int.natCast_one]) (fun _ _ h => h) rfl rfl
          ·
           have e110 : ¬ c.toNat = 110 := (by have h9 := hb47; simp at h9; omega)
           refine AWp_seqK fun Y1 y1 => ?_
           refine AWp_region ?_
           refine aops_chunk 1 fun Q0 q0 => ?_
           simp only [↓bO, go_sem, seval, ActT.cells, gl_uses, ev_glob, hgk, hkg, hkl, hnv, hnp, hbk, hqs]
           refine q0 _ ?_
           clear q0 Q0
           simp only [go_sem]
           simp only [↓bO, go_sem, seval, ActT.cells, gl_uses, ev_glob, hgk, hkg, hkl, hnv, hnp, hbk, hqs]
           refine y1 _ ?_
           try clear y1 Y1
           refine AWp_cond rfl (fun hb54 => ?_) (fun hb54 => ?_)
           ·
            have e116 : c.toNat = 116 := (by have h9 := hb54; simp at h9; omega)
            have hnx : lineS a (lineK a k) c.toNat = lineK a k ++ ((⟨#[32]⟩ : ByteArray) ++ quS a.text) := by (unfold lineS; rw [if_neg (by omega), if_pos e116]; rfl)
            have hm1 : (((((#[32] : Array UInt8).size + (quS a.text).size) : Nat) : Int) ≤ IntKind.i64.max) = True := eq_true (by (show ((((#[32] : Array UInt8).size + (quS a.text).size) : Nat) : Int) ≤ 9223372036854775807); omega)
            have hm2 : (((((lineK a k).size + ((#[32] : Array UInt8).size + (quS a.text).size)) : Nat) : Int) ≤ IntKind.i64.max) = True := eq_true (by (show ((((lineK a k).size + ((#[32] : Array UInt8).size + (quS a.text).size)) : Nat) : Int) ≤ 9223372036854775807); omega)
            refine AWp_region ?_
            iterate 3 (refine aops_chunk 1 fun Q0 q0 => ?_; simp only [↓bO, go_sem, seval, ActT.cells, gl_uses, ev_glob, hgk, hkg, hkl, hnv, hnp, hbk, hqs, hnx, hm1, hm2]; refine q0 _ ?_; clear q0 Q0; simp only [go_sem])
            refine aops_chunk 1 fun Q0 q0 => ?_
            simp only [↓bO, go_sem, seval, ActT.cells, gl_uses, ev_glob, hgk, hkg, hkl, hnv, hnp, hbk, hqs, hnx, hm1, hm2]
            refine APure.call (Quote_pure a.text (by omega)) ?_
            try simp only [bS, bA, thenQ, blockQ, noGotoQ]
            iterate 2 (refine q0 _ ?_; clear q0 Q0; simp only [go_sem]; refine aops_chunk 1 fun Q0 q0 => ?_; simp only [↓bO, go_sem, seval, ActT.cells, gl_uses, ev_glob, hgk, hkg, hkl, hnv, hnp, hbk, hqs, hnx, hm1, hm2])
            refine q0 _ ?_
            clear q0 Q0
            simp only [go_sem]
            simp only [↓bO, go_sem, seval, ActT.cells, gl_uses, ev_glob, hgk, hkg, hkl, hnv, hnp, hbk, hqs, hnx, hm1, hm2]
            refine ⟨(k + 1), (by omega), by omega, ?_⟩
            try simp only [maskL, setsL, putsO, putO, mB, List.set_cons_zero, List.set_cons_succ, seval, ActT.cells, hgk, hkg, hkl, hnv, hnp, hbk, hqs, hnx, hm1, hm2]
            exact Weak.mk (by simp only [go_sem, Le.refl, Le.any, Le.slNil, Int.natCast_add, Int.cast_ofNat_Int, Int.natCast_one]) (fun _ _ h => h) rfl rfl
           ·
            have e116 : ¬ c.toNat = 116 := (by have h9 := hb54; simp at h9; omega)
            refine AWp_seqK fun Y1 y1 => ?_
            refine AWp_region ?_
            refine aops_chunk 1 fun Q0 q0 => ?_
            simp only [↓bO, go_sem, seval, ActT.cells, gl_uses, ev_glob, hgk, hkg, hkl, hnv, hnp, hbk, hqs]
            refine q0 _ ?_
            clear q0 Q0
            simp only [go_sem]
            simp only [↓bO, go_sem, seval, ActT.cells, gl_uses, ev_glob, hgk, hkg, hkl, hnv, hnp, hbk, hqs]
            refine y1 _ ?_
            try clear y1 Y1
            refine AWp_cond rfl (fun hb62 => ?_) (fun hb62 => ?_)
            ·
             have e102 : c.toNat = 102 := (by have h9 := hb62; simp at h9; omega)
             have hnx : lineS a (lineK a k) c.toNat = lineK a k ++ ((⟨#[32]⟩ : ByteArray) ++ itS a.p1) := by (unfold lineS; rw [if_neg (by omega), if_neg (by omega), if_pos e102]; rfl)
             have hm1 : (((((#[32] : Array UInt8).size + (itS a.p1).size) : Nat) : Int) ≤ IntKind.i64.max) = True := eq_true (by (show ((((#[32] : Array UInt8).size + (itS a.p1).size) : Nat) : Int) ≤ 9223372036854775807); omega)
             have hm2 : (((((lineK a k).size + ((#[32] : Array UInt8).size + (itS a.p1).size)) : Nat) : Int) ≤ IntKind.i64.max) = True := eq_true (by (show ((((lineK a k).size + ((#[32] : Array UInt8).size + (itS a.p1).size)) : Nat) : Int) ≤ 9223372036854775807); omega)
             refine AWp_region ?_
             iterate 3 (refine aops_chunk 1 fun Q0 q0 => ?_; simp only [↓bO, go_sem, seval, ActT.cells, gl_uses, ev_glob, hgk, hkg, hkl, hnv, hnp, hbk, hqs, hnx, hm1, hm2]; refine q0 _ ?_; clear q0 Q0; simp only [go_sem])
             refine aops_chunk 1 fun Q0 q0 => ?_
             simp only [↓bO, go_sem, seval, ActT.cells, gl_uses, ev_glob, hgk, hkg, hkl, hnv, hnp, hbk, hqs, hnx, hm1, hm2]
             refine APure.call (TItoa_pure a.p1 f1.1 f1.2) ?_
             try simp only [bS, bA, thenQ, blockQ, noGotoQ]
             iterate 2 (refine q0 _ ?_; clear q0 Q0; simp only [go_sem]; refine aops_chunk 1 fun Q0 q0 => ?_; simp only [↓bO, go_sem, seval, ActT.cells, gl_uses, ev_glob, hgk, hkg, hkl, hnv, hnp, hbk, hqs, hnx, hm1, hm2])
             refine q0 _ ?_
             clear q0 Q0
             simp only [go_sem]
             simp only [↓bO, go_sem, seval, ActT.cells, gl_uses, ev_glob, hgk, hkg, hkl, hnv, hnp, hbk, hqs, hnx, hm1, hm2]
             refine ⟨(k + 1), (by omega), by omega, ?_⟩
             try simp only [maskL, setsL, putsO, putO, mB, List.set_cons_zero, List.set_cons_succ, seval, ActT.cells, hgk, hkg, hkl, hnv, hnp, hbk, hqs, hnx, hm1, hm2]
             exact Weak.mk (by simp only [go_sem, Le.refl, Le.any, Le.slNil, Int.natCast_add, Int.cast_ofNat_Int, Int.natCast_one]) (fun _ _ h => h) rfl rfl
            ·
             have e102 : ¬ c.toNat = 102 := (by have h9 := hb62; simp at h9; omega)
             refine AWp_seqK fun Y1 y1 => ?_
             refine AWp_region ?_
             refine aops_chunk 1 fun Q0 q0 => ?_
             simp only [↓bO, go_sem, seval, ActT.cells, gl_uses, ev_glob, hgk, hkg, hkl, hnv, hnp, hbk, hqs]
             refine q0 _ ?_
             clear q0 Q0
             simp only [go_sem]
             simp only [↓bO, go_sem, seval, ActT.cells, gl_uses, ev_glob, hgk, hkg, hkl, hnv, hnp, hbk, hqs]
             refine y1 _ ?_
             try clear y1 Y1
             refine AWp_cond rfl (fun hb70 => ?_) (fun hb70 => ?_)
             ·
              have e111 : c.toNat = 111 := (by have h9 := hb70; simp at h9; omega)
              have hnx : lineS a (lineK a k) c.toNat = lineK a k ++ ((⟨#[32]⟩ : ByteArray) ++ itS a.p2) := by (unfold lineS; rw [if_neg (by omega), if_neg (by omega), if_neg (by omega), if_pos e111]; rfl)
              have hm1 : (((((#[32] : Array UInt8).size + (itS a.p2).size) : Nat) : Int) ≤ IntKind.i64.max) = True := eq_true (by (show ((((#[32] : Array UInt8).size + (itS a.p2).size) : Nat) : Int) ≤ 9223372036854775807); omega)
              have hm2 : (((((lineK a k).size + ((#[32] : Array UInt8).size + (itS a.p2).size)) : Nat) : Int) ≤ IntKind.i64.max) = True := eq_true (by (show ((((lineK a k).size + ((#[32] : Array UInt8).size + (itS a.p2).size)) : Nat) : Int) ≤ 9223372036854775807); omega)
              refine AWp_region ?_
              iterate 3 (refine aops_chunk 1 fun Q0 q0 => ?_; simp only [↓bO, go_sem, seval, ActT.cells, gl_uses, ev_glob, hgk, hkg, hkl, hnv, hnp, hbk, hqs, hnx, hm1, hm2]; refine q0 _ ?_; clear q0 Q0; simp only [go_sem])
              refine aops_chunk 1 fun Q0 q0 => ?_
              simp only [↓bO, go_sem, seval, ActT.cells, gl_uses, ev_glob, hgk, hkg, hkl, hnv, hnp, hbk, hqs, hnx, hm1, hm2]
              refine APure.call (TItoa_pure a.p2 f2.1 f2.2) ?_
              try simp only [bS, bA, thenQ, blockQ, noGotoQ]
              iterate 2 (refine q0 _ ?_; clear q0 Q0; simp only [go_sem]; refine aops_chunk 1 fun Q0 q0 => ?_; simp only [↓bO, go_sem, seval, ActT.cells, gl_uses, ev_glob, hgk, hkg, hkl, hnv, hnp, hbk, hqs, hnx, hm1, hm2])
              refine q0 _ ?_
              clear q0 Q0
              simp only [go_sem]
              simp only [↓bO, go_sem, seval, ActT.cells, gl_uses, ev_glob, hgk, hkg, hkl, hnv, hnp, hbk, hqs, hnx, hm1, hm2]
              refine ⟨(k + 1), (by omega), by omega, ?_⟩
              try simp only [maskL, setsL, putsO, putO, mB, List.set_cons_zero, List.set_cons_succ, seval, ActT.cells, hgk, hkg, hkl, hnv, hnp, hbk, hqs, hnx, hm1, hm2]
              exact Weak.mk (by simp only [go_sem, Le.refl, Le.any, Le.slNil, Int.natCast_add, Int.cast_ofNat_Int, Int.natCast_one]) (fun _ _ h => h) rfl rfl
             ·
              have e111 : ¬ c.toNat = 111 := (by have h9 := hb70; simp at h9; omega)
              refine AWp_seqK fun Y1 y1 => ?_
              refine AWp_region ?_
              refine aops_chunk 1 fun Q0 q0 => ?_
              simp only [↓bO, go_sem, seval, ActT.cells, gl_uses, ev_glob, hgk, hkg, hkl, hnv, hnp, hbk, hqs]
              refine q0 _ ?_
              clear q0 Q0
              simp only [go_sem]
              simp only [↓bO, go_sem, seval, ActT.cells, gl_uses, ev_glob, hgk, hkg, hkl, hnv, hnp, hbk, hqs]
              refine y1 _ ?_
              try clear y1 Y1
              refine AWp_cond rfl (fun hb78 => ?_) (fun hb78 => ?_)
              ·
               have e117 : c.toNat = 117 := (by have h9 := hb78; simp at h9; omega)
               have hnx : lineS a (lineK a k) c.toNat = lineK a k ++ ((⟨#[32]⟩ : ByteArray) ++ itS a.n) := by (unfold lineS; rw [if_neg (by omega), if_neg (by omega), if_neg (by omega), if_neg (by omega), if_pos e117]; rfl)
               have hm1 : (((((#[32] : Array UInt8).size + (itS a.n).size) : Nat) : Int) ≤ IntKind.i64.max) = True := eq_true (by (show ((((#[32] : Array UInt8).size + (itS a.n).size) : Nat) : Int) ≤ 9223372036854775807); omega)
               have hm2 : (((((lineK a k).size + ((#[32] : Array UInt8).size + (itS a.n).size)) : Nat) : Int) ≤ IntKind.i64.max) = True := eq_true (by (show ((((lineK a k).size + ((#[32] : Array UInt8).size + (itS a.n).size)) : Nat) : Int) ≤ 9223372036854775807); omega)
               refine AWp_region ?_
               iterate 3 (refine aops_chunk 1 fun Q0 q0 => ?_; simp only [↓bO, go_sem, seval, ActT.cells, gl_uses, ev_glob, hgk, hkg, hkl, hnv, hnp, hbk, hqs, hnx, hm1, hm2]; refine q0 _ ?_; clear q0 Q0; simp only [go_sem])
               refine aops_chunk 1 fun Q0 q0 => ?_
               simp only [↓bO, go_sem, seval, ActT.cells, gl_uses, ev_glob, hgk, hkg, hkl, hnv, hnp, hbk, hqs, hnx, hm1, hm2]
               refine APure.call (TItoa_pure a.n f3.1 f3.2) ?_
               try simp only [bS, bA, thenQ, blockQ, noGotoQ]
               iterate 2 (refine q0 _ ?_; clear q0 Q0; simp only [go_sem]; refine aops_chunk 1 fun Q0 q0 => ?_; simp only [↓bO, go_sem, seval, ActT.cells, gl_uses, ev_glob, hgk, hkg, hkl, hnv, hnp, hbk, hqs, hnx, hm1, hm2])
               refine q0 _ ?_
               clear q0 Q0
               simp only [go_sem]
               simp only [↓bO, go_sem, seval, ActT.cells, gl_uses, ev_glob, hgk, hkg, hkl, hnv, hnp, hbk, hqs, hnx, hm1, hm2]
               refine ⟨(k + 1), (by omega), by omega, ?_⟩
               try simp only [maskL, setsL, putsO, putO, mB, List.set_cons_zero, List.set_cons_succ, seval, ActT.cells, hgk, hkg, hkl, hnv, hnp, hbk, hqs, hnx, hm1, hm2]
               exact Weak.mk (by simp only [go_sem, Le.refl, Le.any, Le.slNil, Int.natCast_add, Int.cast_ofNat_Int, Int.natCast_one]) (fun _ _ h => h) rfl rfl
              ·
               have e117 : ¬ c.toNat = 117 := (by have h9 := hb78; simp at h9; omega)
               refine AWp_seqK fun Y1 y1 => ?_
               refine AWp_region ?_
               refine aops_chunk 1 fun Q0 q0 => ?_
               simp only [↓bO, go_sem, seval, ActT.cells, gl_uses, ev_glob, hgk, hkg, hkl, hnv, hnp, hbk, hqs]
               refine q0 _ ?_
               clear q0 Q0
               simp only [go_sem]
               simp only [↓bO, go_sem, seval, ActT.cells, gl_uses, ev_glob, hgk, hkg, hkl, hnv, hnp, hbk, hqs]
               refine y1 _ ?_
               try clear y1 Y1
               refine AWp_cond rfl (fun hb86 => ?_) (fun hb86 => ?_)
               ·
                have e108 : c.toNat = 108 := (by have h9 := hb86; simp at h9; omega)
                have hnx : lineS a (lineK a k) c.toNat = lineK a k ++ ((⟨#[32]⟩ : ByteArray) ++ itS a.lb ++ (⟨#[32]⟩ : ByteArray) ++ itS a.ld ++ (⟨#[32]⟩ : ByteArray) ++ itS a.le) := by (unfold lineS; rw [if_neg (by omega), if_neg (by omega), if_neg (by omega), if_neg (by omega), if_neg (by omega), if_pos e108]; rfl)
                have hm1 : (((((#[32] : Array UInt8).size + (itS a.lb).size) : Nat) : Int) ≤ IntKind.i64.max) = True := eq_true (by (show ((((#[32] : Array UInt8).size + (itS a.lb).size) : Nat) : Int) ≤ 9223372036854775807); omega)
                have hm2 : ((((((#[32] : Array UInt8).size + (itS a.lb).size) + (#[32] : Array UInt8).size) : Nat) : Int) ≤ IntKind.i64.max) = True := eq_true (by (show (((((#[32] : Array UInt8).size + (itS a.lb).size) + (#[32] : Array UInt8).size) : Nat) : Int) ≤ 9223372036854775807); omega)
                have hm3 : (((((((#[32] : Array UInt8).size + (itS a.lb).size) + (#[32] : Array UInt8).size) + (itS a.ld).size) : Nat) : Int) ≤ IntKind.i64.max) = True := eq_true (by (show ((((((#[32] : Array UInt8).size + (itS a.lb).size) + (#[32] : Array UInt8).size) + (itS a.ld).size) : Nat) : Int) ≤ 9223372036854775807); omega)
                have hm4 : ((((((((#[32] : Array UInt8).size + (itS a.lb).size) + (#[32] : Array UInt8).size) + (itS a.ld).size) + (#[32] : Array UInt8).size) : Nat) : Int) ≤ IntKind.i64.max) = True := eq_true (by (show (((((((#[32] : Array UInt8).size + (itS a.lb).size) + (#[32] : Array UInt8).size) + (itS a.ld).size) + (#[32] : Array UInt8).size) : Nat) : Int) ≤ 9223372036854775807); omega)
                have hm5 : (((((((((#[32] : Array UInt8).size + (itS a.lb).size) + (#[32] : Array UInt8).size) + (itS a.ld).size) + (#[32] : Array UInt8).size) + (itS a.le).size) : Nat) : Int) ≤ IntKind.i64.max) = True := eq_true (by (show ((((((((#[32] : Array UInt8).size + (itS a.lb).size) + (#[32] : Array UInt8).size) + (itS a.ld).size) + (#[32] : Array UInt8).size) + (itS a.le).size) : Nat) : Int) ≤ 9223372036854775807); omega)
                have hm6 : (((((lineK a k).size + ((((((#[32] : Array UInt8).size + (itS a.lb).size) + (#[32] : Array UInt8).size) + (itS a.ld).size) + (#[32] : Array UInt8).size) + (itS a.le).size)) : Nat) : Int) ≤ IntKind.i64.max) = True := eq_true (by (show ((((lineK a k).size + ((((((#[32] : Array UInt8).size + (itS a.lb).size) + (#[32] : Array UInt8).size) + (itS a.ld).size) + (#[32] : Array UInt8).size) + (itS a.le).size)) : Nat) : Int) ≤ 9223372036854775807); omega)
                refine AWp_drawK 19 mixed (by kernel_rfl) fun J0 j0 => ?_
                iterate 4 (simp only [go_sem]; refine dRun_chunk 1 fun Q0 q0 => ?_; simp only [↓dRun, ↓dOp, ↓bO, go_sem, seval, ActT.cells, gl_uses, ev_glob, hgk, hkg, hkl, hnv, hnp, hbk, hqs, hnx, hm1, hm2, hm3, hm4, hm5, hm6]; refine q0 _ ?_; clear q0 Q0)
                simp only [go_sem]
                refine dRun_chunk 1 fun Q0 q0 => ?_
                simp only [↓dRun, ↓dOp, ↓bO, go_sem, seval, ActT.cells, gl_uses, ev_glob, hgk, hkg, hkl, hnv, hnp, hbk, hqs, hnx, hm1, hm2, hm3, hm4, hm5, hm6]
                refine ⟨_, TItoa_pure a.lb f4.1 f4.2, ?_⟩
                try simp only [bS, bA, thenQ, blockQ, noGotoQ]
                iterate 6 (refine q0 _ ?_; clear q0 Q0; simp only [go_sem]; refine dRun_chunk 1 fun Q0 q0 => ?_; simp only [↓dRun, ↓dOp, ↓bO, go_sem, seval, ActT.cells, gl_uses, ev_glob, hgk, hkg, hkl, hnv, hnp, hbk, hqs, hnx, hm1, hm2, hm3, hm4, hm5, hm6])
                refine ⟨_, TItoa_pure a.ld f5.1 f5.2, ?_⟩
                try simp only [bS, bA, thenQ, blockQ, noGotoQ]
                iterate 6 (refine q0 _ ?_; clear q0 Q0; simp only [go_sem]; refine dRun_chunk 1 fun Q0 q0 => ?_; simp only [↓dRun, ↓dOp, ↓bO, go_sem, seval, ActT.cells, gl_uses, ev_glob, hgk, hkg, hkl, hnv, hnp, hbk, hqs, hnx, hm1, hm2, hm3, hm4, hm5, hm6])
                refine ⟨_, TItoa_pure a.le f6.1 f6.2, ?_⟩
                try simp only [bS, bA, thenQ, blockQ, noGotoQ]
                refine q0 _ ?_
                clear q0 Q0
                simp only [go_sem]
                refine dRun_chunk 1 fun Q0 q0 => ?_
                simp only [↓dRun, ↓dOp, ↓bO, go_sem, seval, ActT.cells, gl_uses, ev_glob, hgk, hkg, hkl, hnv, hnp, hbk, hqs, hnx, hm1, hm2, hm3, hm4, hm5, hm6]
                refine q0 _ ?_
                clear q0 Q0
                simp only [go_sem]
                simp only [↓dRun, ↓dOp, ↓bO, go_sem, seval, ActT.cells, gl_uses, ev_glob, hgk, hkg, hkl, hnv, hnp, hbk, hqs, hnx, hm1, hm2, hm3, hm4, hm5, hm6]
                refine j0 _ ?_
                clear j0 J0
                simp only [go_sem]
                simp only [↓bO, go_sem, seval, ActT.cells, gl_uses, ev_glob, hgk, hkg, hkl, hnv, hnp, hbk, hqs, hnx, hm1, hm2, hm3, hm4, hm5, hm6]
                refine ⟨(k + 1), (by omega), by omega, ?_⟩
                try simp only [maskL, setsL, putsO, putO, mB, List.set_cons_zero, List.set_cons_succ, seval, ActT.cells, hgk, hkg, hkl, hnv, hnp, hbk, hqs, hnx, hm1, hm2, hm3, hm4, hm5, hm6]
                exact Weak.mk (by simp only [go_sem, Le.refl, Le.any, Le.slNil, Int.natCast_add, Int.cast_ofNat_Int, Int.natCast_one]) (fun _ _ h => h) rfl rfl
               ·
                have e108 : ¬ c.toNat = 108 := (by have h9 := hb86; simp at h9; omega)
                have hnx : lineS a (lineK a k) c.toNat = lineK a k := by (unfold lineS; rw [if_neg e110, if_neg e116, if_neg e102, if_neg e111, if_neg e117, if_neg e108])
                refine AWp_skip ?_
                try simp only [thenQ, blockQ, noGotoQ]
                refine ⟨(k + 1), (by omega), by omega, ?_⟩
                try simp only [maskL, setsL, putsO, putO, mB, List.set_cons_zero, List.set_cons_succ, seval, ActT.cells, hgk, hkg, hkl, hnv, hnp, hbk, hqs, hnx]
                exact Weak.mk (by simp only [go_sem, Le.refl, Le.any, Le.slNil, Int.natCast_add, Int.cast_ofNat_Int, Int.natCast_one]) (fun _ _ h => h) rfl rfl
         ·
          have hge : ¬ k < (usS a.k).size := (by have h9 := hb44; simpa using h9)
          have hba := lineK_all hk1 hge
          refine AWp_exit ?_
          simp only [thenQ, blockQ, noGotoQ, bA, Nat.reduceEqDiff, ↓reduceIte]
          refine y0 _ ?_
          try clear y0 Y0
          refine AWp_seqK fun Y0 y0 => ?_
          refine AWp_region ?_
          iterate 2 (refine aops_chunk 1 fun Q0 q0 => ?_; simp only [↓bO, go_sem, seval, ActT.cells, gl_uses, ev_glob, hgk, hkg, hkl, hba]; refine q0 _ ?_; clear q0 Q0; simp only [go_sem])
          simp only [↓bO, go_sem, seval, ActT.cells, gl_uses, ev_glob, hgk, hkg, hkl, hba]
          refine y0 _ ?_
          try clear y0 Y0
          refine AWp_ret ?_
          try simp only [thenQ, blockQ, noGotoQ, retQ, aRes, tupOf, bS, bA]
          rw [lineA_ok ((ActT.err_yes hk1 hyes).trans (if_neg (by omega)))]
          exact Le.refl _
      ·
       simp only [List.set_cons_zero, List.set_cons_succ]
       have hE := hb22
       iterate 5 (refine aops_chunk 1 fun Q0 q0 => ?_; simp only [↓bO, go_sem, seval, ActT.cells, gl_uses, ev_glob, hgk, hkg, hkl]; refine q0 _ ?_; clear q0 Q0; simp only [go_sem])
       simp only [↓bO, go_sem, seval, ActT.cells, gl_uses, ev_glob, hgk, hkg, hkl]
       refine y1 _ ?_
       try clear y1 Y1
       refine AWp_cond (b := false) (by first | exact rfl | exact congrArg (fun b => AV.v (.bool b)) hb22) (fun h => (by cases h)) (fun _ => ?_)
       refine AWp_seqK fun Y1 y1 => ?_
       refine AWp_region ?_
       iterate 4 (refine aops_chunk 1 fun Q0 q0 => ?_; simp only [↓bO, go_sem, seval, ActT.cells, gl_uses, ev_glob, hgk, hkg, hkl]; refine q0 _ ?_; clear q0 Q0; simp only [go_sem])
       simp only [↓bO, go_sem, seval, ActT.cells, gl_uses, ev_glob, hgk, hkg, hkl]
       refine y1 _ ?_
       try clear y1 Y1
       refine AWp_cond rfl (fun hb36 => ?_) (fun hb36 => ?_)
       ·
        have hyes : a.no = false := by (first | exact ActT.yes1 hE hb22 | exact ActT.yes2 hE hc30)
        have hlong : a.text.size > 4096 := (by have h9 := hb36; simp at h9; omega)
        refine AWp_seqK fun Y1 y1 => ?_
        refine AWp_region ?_
        refine aops_chunk 1 fun Q0 q0 => ?_
        simp only [↓bO, go_sem, seval, ActT.cells, gl_uses, ev_glob, hgk, hkg, hkl]
        refine q0 _ ?_
        clear q0 Q0
        simp only [go_sem]
        simp only [↓bO, go_sem, seval, ActT.cells, gl_uses, ev_glob, hgk, hkg, hkl]
        refine y1 _ ?_
        try clear y1 Y1
        refine AWp_ret ?_
        try simp only [thenQ, blockQ, noGotoQ, retQ, aRes, tupOf, bS, bA]
        rw [lineA_err ((ActT.err_yes hk1 hyes).trans (if_pos hlong)) (by decide)]
        exact Le.refl _
       ·
        have hyes : a.no = false := by (first | exact ActT.yes1 hE hb22 | exact ActT.yes2 hE hc30)
        have ht : a.text.size ≤ 4096 := (by have h9 := hb36; simp at h9; omega)
        have hn20 := ActT.name20 hk1 hyes
        have hn1 : a.name.size ≤ 1048576 := by omega
        refine AWp_skip ?_
        try simp only [thenQ, blockQ, noGotoQ]
        refine y0 _ ?_
        try clear y0 Y0
        refine AWp_seqK fun Y0 y0 => ?_
        refine AWp_seqK fun Y1 y1 => ?_
        refine AWp_region ?_
        refine aops_chunk 1 fun Q0 q0 => ?_
        simp only [↓bO, go_sem, seval, ActT.cells, gl_uses, ev_glob, hgk, hkg, hkl]
        refine q0 _ ?_
        clear q0 Q0
        simp only [go_sem]
        simp only [↓bO, go_sem, seval, aRange, ActT.cells, gl_uses, ev_glob, hgk, hkg, hkl]
        refine y1 _ ?_
        try clear y1 Y1
        refine AWp_block ?_
        refine AWp_loopM (σ := Nat) (mB 108 4398046511122) (fun k => k ≤ (usS a.k).size) (fun k => [(4, .v (.string (lineK a k)))]) (fun k => [(0, .raw (.stringIter (usS a.k) k))]) (fun k => (usS a.k).size - k) 0 (by omega) ?_ (fun k hk => ?_)
        ·
         try simp only [maskL, setsL, putsO, putO, mB, List.set_cons_zero, List.set_cons_succ, seval, lineK_zero]
         exact Weak.mk (by simp only [go_sem, Le.refl, Le.any, Le.slNil, Int.natCast_add, Int.cast_ofNat_Int, Int.natCast_one]) (fun _ _ h => h) rfl rfl
        simp only [maskL, setsL, putsO, putO, mB, List.set_cons_zero, List.set_cons_succ, seval]
        refine AWp_seqK fun Y1 y1 => ?_
        refine AWp_region ?_
        refine aops_chunk 1 fun Q0 q0 => ?_
        simp only [↓bO, go_sem, seval, aNext, aExtract_next, ActT.cells, gl_uses, ev_glob, hgk, hkg, hkl]
        refine q0 _ ?_
        clear q0 Q0
        simp only [go_sem]
        simp only [↓bO, go_sem, seval, aExtract_tup, ActT.cells, gl_uses, ev_glob, hgk, hkg, hkl]
        refine y1 _ ?_
        try clear y1 Y1
        refine AWp_seqK fun Y1 y1 => ?_
        refine AWp_cond rfl (fun hb44 => ?_) (fun hb44 => ?_)
        ·
         have hlt : k < (usS a.k).size := (by have h9 := hb44; simpa using h9)
         obtain ⟨c, hc⟩ : ∃ c, ((usS a.k)[k]?).getD 0 = c := ⟨_, rfl⟩
         have hda := asc_at (usS_asc a.k) hlt
         rw [hc] at hda
         have hnv : nextV (usS a.k) k = .tup [.v (.bool true), .v (.int .i64 (k : Int)), .v (.int .i32 (c.toNat : Int))] := by rw [nextV, if_pos hlt, hda]
         have hnp : nextP (usS a.k) k = k + 1 := by rw [nextP, if_pos hlt, hda]
         have hbk := lineK_succ (a := a) hlt hc
         have hks := lineK_size hf hn1 ht k (by omega)
         have sp1 : ((⟨#[32]⟩ : ByteArray) : ByteArray).size = 1 := rfl
         have sp2 : (#[32] : Array UInt8).size = 1 := rfl
         have e1 := itS_size a.p1 f1.1 f1.2
         have e2 := itS_size a.p2 f2.1 f2.2
         have e3 := itS_size a.n f3.1 f3.2
         have e4 := itS_size a.lb f4.1 f4.2
         have e5 := itS_size a.ld f5.1 f5.2
         have e6 := itS_size a.le f6.1 f6.2
         have e7 := quS_size a.text
         have hqs : ofL (quL a.text.data.toList) = quS a.text := rfl
         refine AWp_skip ?_
         try simp only [thenQ, blockQ, noGotoQ]
         refine y1 _ ?_
         try clear y1 Y1
         refine AWp_block ?_
         refine AWp_seqK fun Y1 y1 => ?_
         refine AWp_region ?_
         refine aops_chunk 1 fun Q0 q0 => ?_
         simp only [↓bO, go_sem, seval, aExtract_tup, ActT.cells, gl_uses, ev_glob, hgk, hkg, hkl, hnv, hnp, hbk, hqs]
         refine q0 _ ?_
         clear q0 Q0
         simp only [go_sem]
         simp only [↓bO, go_sem, seval, ActT.cells, gl_uses, ev_glob, hgk, hkg, hkl, hnv, hnp, hbk, hqs]
         refine y1 _ ?_
         try clear y1 Y1
         refine AWp_seqK fun Y1 y1 => ?_
         refine AWp_region ?_
         simp only [↓bO, go_sem, seval, ActT.cells, gl_uses, ev_glob, hgk, hkg, hkl, hnv, hnp, hbk, hqs]
         refine y1 _ ?_
         try clear y1 Y1
         refine AWp_block ?_
         refine AWp_seqK fun Y1 y1 => ?_
         refine AWp_region ?_
         refine aops_chunk 1 fun Q0 q0 => ?_
         simp only [↓bO, go_sem, seval, ActT.cells, gl_uses, ev_glob, hgk, hkg, hkl, hnv, hnp, hbk, hqs]
         refine q0 _ ?_
         clear q0 Q0
         simp only [go_sem]
         simp only [↓bO, go_sem, seval, ActT.cells, gl_uses, ev_glob, hgk, hkg, hkl, hnv, hnp, hbk, hqs]
         refine y1 _ ?_
         try clear y1 Y1
         refine AWp_cond rfl (fun hb47 => ?_) (fun hb47 => ?_)
         ·
          have e110 : c.toNat = 110 := (by have h9 := hb47; simp at h9; omega)
          have hnx : lineS a (lineK a k) c.toNat = lineK a k ++ ((⟨#[32]⟩ : ByteArray) ++ a.name) := by (unfold lineS; rw [if_pos e110]; rfl)
          have hm1 : (((((#[32] : Array UInt8).size + (a.name).size) : Nat) : Int) ≤ IntKind.i64.max) = True := eq_true (by (show ((((#[32] : Array UInt8).size + (a.name).size) : Nat) : Int) ≤ 9223372036854775807); omega)
          have hm2 : (((((lineK a k).size + ((#[32] : Array UInt8).size + (a.name).size)) : Nat) : Int) ≤ IntKind.i64.max) = True := eq_true (by (show ((((lineK a k).size + ((#[32] : Array UInt8).size + (a.name).size)) : Nat) : Int) ≤ 9223372036854775807); omega)
          refine AWp_region ?_
          iterate 5 (refine aops_chunk 1 fun Q0 q0 => ?_; simp only [↓bO, go_sem, seval, ActT.cells, gl_uses, ev_glob, hgk, hkg, hkl, hnv, hnp, hbk, hqs, hnx, hm1, hm2]; refine q0 _ ?_; clear q0 Q0; simp only [go_sem])
          simp only [↓bO, go_sem, seval, ActT.cells, gl_uses, ev_glob, hgk, hkg, hkl, hnv, hnp, hbk, hqs, hnx, hm1, hm2]
          refine ⟨(k + 1), (by omega), by omega, ?_⟩
          try simp only [maskL, setsL, putsO, putO, mB, List.set_cons_zero, List.set_cons_succ, seval, ActT.cells, hgk, hkg, hkl, hnv, hnp, hbk, hqs, hnx, hm1, hm2]
          exact Weak.mk (by simp only [go_sem, Le.refl, Le.any, Le.slNil, Int.natCast_add, Int.cast_ofNat_Int, Int.natCast_one]) (fun _ _ h => h) rfl rfl
         ·
          have e110 : ¬ c.toNat = 110 := (by have h9 := hb47; simp at h9; omega)
          refine AWp_seqK fun Y1 y1 => ?_
          refine AWp_region ?_
          refine aops_chunk 1 fun Q0 q0 => ?_
          simp only [↓bO, go_sem, seval, ActT.cells, gl_uses, ev_glob, hgk, hkg, hkl, hnv, hnp, hbk, hqs]
          refine q0 _ ?_
          clear q0 Q0
          simp only [go_sem]
          simp only [↓bO, go_sem, seval, ActT.cells, gl_uses, ev_glob, hgk, hkg, hkl, hnv, hnp, hbk, hqs]
          refine y1 _ ?_
          try clear y1 Y1
          refine AWp_cond rfl (fun hb54 => ?_) (fun hb54 => ?_)
          ·
           have e116 : c.toNat = 116 := (by have h9 := hb54; simp at h9; omega)
           have hnx : lineS a (lineK a k) c.toNat = lineK a k ++ ((⟨#[32]⟩ : ByteArray) ++ quS a.text) := by (unfold lineS; rw [if_neg (by omega), if_pos e116]; rfl)
           have hm1 : (((((#[32] : Array UInt8).size + (quS a.text).size) : Nat) : Int) ≤ IntKind.i64.max) = True := eq_true (by (show ((((#[32] : Array UInt8).size + (quS a.text).size) : Nat) : Int) ≤ 9223372036854775807); omega)
           have hm2 : (((((lineK a k).size + ((#[32] : Array UInt8).size + (quS a.text).size)) : Nat) : Int) ≤ IntKind.i64.max) = True := eq_true (by (show ((((lineK a k).size + ((#[32] : Array UInt8).size + (quS a.text).size)) : Nat) : Int) ≤ 9223372036854775807); omega)
           refine AWp_region ?_
           iterate 3 (refine aops_chunk 1 fun Q0 q0 => ?_; simp only [↓bO, go_sem, seval, ActT.cells, gl_uses, ev_glob, hgk, hkg, hkl, hnv, hnp, hbk, hqs, hnx, hm1, hm2]; refine q0 _ ?_; clear q0 Q0; simp only [go_sem])
           refine aops_chunk 1 fun Q0 q0 => ?_
           simp only [↓bO, go_sem, seval, ActT.cells, gl_uses, ev_glob, hgk, hkg, hkl, hnv, hnp, hbk, hqs, hnx, hm1, hm2]
           refine APure.call (Quote_pure a.text (by omega)) ?_
           try simp only [bS, bA, thenQ, blockQ, noGotoQ]
           iterate 2 (refine q0 _ ?_; clear q0 Q0; simp only [go_sem]; refine aops_chunk 1 fun Q0 q0 => ?_; simp only [↓bO, go_sem, seval, ActT.cells, gl_uses, ev_glob, hgk, hkg, hkl, hnv, hnp, hbk, hqs, hnx, hm1, hm2])
           refine q0 _ ?_
           clear q0 Q0
           simp only [go_sem]
           simp only [↓bO, go_sem, seval, ActT.cells, gl_uses, ev_glob, hgk, hkg, hkl, hnv, hnp, hbk, hqs, hnx, hm1, hm2]
           refine ⟨(k + 1), (by omega), by omega, ?_⟩
           try simp only [maskL, setsL, putsO, putO, mB, List.set_cons_zero, List.set_cons_succ, seval, ActT.cells, hgk, hkg, hkl, hnv, hnp, hbk, hqs, hnx, hm1, hm2]
           exact Weak.mk (by simp only [go_sem, Le.refl, Le.any, Le.slNil, Int.natCast_add, Int.cast_ofNat_Int, Int.natCast_one]) (fun _ _ h => h) rfl rfl
          ·
           have e116 : ¬ c.toNat = 116 := (by have h9 := hb54; simp at h9; omega)
           refine AWp_seqK fun Y1 y1 => ?_
           refine AWp_region ?_
           refine aops_chunk 1 fun Q0 q0 => ?_
           simp only [↓bO, go_sem, seval, ActT.cells, gl_uses, ev_glob, hgk, hkg, hkl, hnv, hnp, hbk, hqs]
           refine q0 _ ?_
           clear q0 Q0
           simp only [go_sem]
           simp only [↓bO, go_sem, seval, ActT.cells, gl_uses, ev_glob, hgk, hkg, hkl, hnv, hnp, hbk, hqs]
           refine y1 _ ?_
           try clear y1 Y1
           refine AWp_cond rfl (fun hb62 => ?_) (fun hb62 => ?_)
           ·
            have e102 : c.toNat = 102 := (by have h9 := hb62; simp at h9; omega)
            have hnx : lineS a (lineK a k) c.toNat = lineK a k ++ ((⟨#[32]⟩ : ByteArray) ++ itS a.p1) := by (unfold lineS; rw [if_neg (by omega), if_neg (by omega), if_pos e102]; rfl)
            have hm1 : (((((#[32] : Array UInt8).size + (itS a.p1).size) : Nat) : Int) ≤ IntKind.i64.max) = True := eq_true (by (show ((((#[32] : Array UInt8).size + (itS a.p1).size) : Nat) : Int) ≤ 9223372036854775807); omega)
            have hm2 : (((((lineK a k).size + ((#[32] : Array UInt8).size + (itS a.p1).size)) : Nat) : Int) ≤ IntKind.i64.max) = True := eq_true (by (show ((((lineK a k).size + ((#[32] : Array UInt8).size + (itS a.p1).size)) : Nat) : Int) ≤ 9223372036854775807); omega)
            refine AWp_region ?_
            iterate 3 (refine aops_chunk 1 fun Q0 q0 => ?_; simp only [↓bO, go_sem, seval, ActT.cells, gl_uses, ev_glob, hgk, hkg, hkl, hnv, hnp, hbk, hqs, hnx, hm1, hm2]; refine q0 _ ?_; clear q0 Q0; simp only [go_sem])
            refine aops_chunk 1 fun Q0 q0 => ?_
            simp only [↓bO, go_sem, seval, ActT.cells, gl_uses, ev_glob, hgk, hkg, hkl, hnv, hnp, hbk, hqs, hnx, hm1, hm2]
            refine APure.call (TItoa_pure a.p1 f1.1 f1.2) ?_
            try simp only [bS, bA, thenQ, blockQ, noGotoQ]
            iterate 2 (refine q0 _ ?_; clear q0 Q0; simp only [go_sem]; refine aops_chunk 1 fun Q0 q0 => ?_; simp only [↓bO, go_sem, seval, ActT.cells, gl_uses, ev_glob, hgk, hkg, hkl, hnv, hnp, hbk, hqs, hnx, hm1, hm2])
            refine q0 _ ?_
            clear q0 Q0
            simp only [go_sem]
            simp only [↓bO, go_sem, seval, ActT.cells, gl_uses, ev_glob, hgk, hkg, hkl, hnv, hnp, hbk, hqs, hnx, hm1, hm2]
            refine ⟨(k + 1), (by omega), by omega, ?_⟩
            try simp only [maskL, setsL, putsO, putO, mB, List.set_cons_zero, List.set_cons_succ, seval, ActT.cells, hgk, hkg, hkl, hnv, hnp, hbk, hqs, hnx, hm1, hm2]
            exact Weak.mk (by simp only [go_sem, Le.refl, Le.any, Le.slNil, Int.natCast_add, Int.cast_ofNat_Int, Int.natCast_one]) (fun _ _ h => h) rfl rfl
           ·
            have e102 : ¬ c.toNat = 102 := (by have h9 := hb62; simp at h9; omega)
            refine AWp_seqK fun Y1 y1 => ?_
            refine AWp_region ?_
            refine aops_chunk 1 fun Q0 q0 => ?_
            simp only [↓bO, go_sem, seval, ActT.cells, gl_uses, ev_glob, hgk, hkg, hkl, hnv, hnp, hbk, hqs]
            refine q0 _ ?_
            clear q0 Q0
            simp only [go_sem]
            simp only [↓bO, go_sem, seval, ActT.cells, gl_uses, ev_glob, hgk, hkg, hkl, hnv, hnp, hbk, hqs]
            refine y1 _ ?_
            try clear y1 Y1
            refine AWp_cond rfl (fun hb70 => ?_) (fun hb70 => ?_)
            ·
             have e111 : c.toNat = 111 := (by have h9 := hb70; simp at h9; omega)
             have hnx : lineS a (lineK a k) c.toNat = lineK a k ++ ((⟨#[32]⟩ : ByteArray) ++ itS a.p2) := by (unfold lineS; rw [if_neg (by omega), if_neg (by omega), if_neg (by omega), if_pos e111]; rfl)
             have hm1 : (((((#[32] : Array UInt8).size + (itS a.p2).size) : Nat) : Int) ≤ IntKind.i64.max) = True := eq_true (by (show ((((#[32] : Array UInt8).size + (itS a.p2).size) : Nat) : Int) ≤ 9223372036854775807); omega)
             have hm2 : (((((lineK a k).size + ((#[32] : Array UInt8).size + (itS a.p2).size)) : Nat) : Int) ≤ IntKind.i64.max) = True := eq_true (by (show ((((lineK a k).size + ((#[32] : Array UInt8).size + (itS a.p2).size)) : Nat) : Int) ≤ 9223372036854775807); omega)
             refine AWp_region ?_
             iterate 3 (refine aops_chunk 1 fun Q0 q0 => ?_; simp only [↓bO, go_sem, seval, ActT.cells, gl_uses, ev_glob, hgk, hkg, hkl, hnv, hnp, hbk, hqs, hnx, hm1, hm2]; refine q0 _ ?_; clear q0 Q0; simp only [go_sem])
             refine aops_chunk 1 fun Q0 q0 => ?_
             simp only [↓bO, go_sem, seval, ActT.cells, gl_uses, ev_glob, hgk, hkg, hkl, hnv, hnp, hbk, hqs, hnx, hm1, hm2]
             refine APure.call (TItoa_pure a.p2 f2.1 f2.2) ?_
             try simp only [bS, bA, thenQ, blockQ, noGotoQ]
             iterate 2 (refine q0 _ ?_; clear q0 Q0; simp only [go_sem]; refine aops_chunk 1 fun Q0 q0 => ?_; simp only [↓bO, go_sem, seval, ActT.cells, gl_uses, ev_glob, hgk, hkg, hkl, hnv, hnp, hbk, hqs, hnx, hm1, hm2])
             refine q0 _ ?_
             clear q0 Q0
             simp only [go_sem]
             simp only [↓bO, go_sem, seval, ActT.cells, gl_uses, ev_glob, hgk, hkg, hkl, hnv, hnp, hbk, hqs, hnx, hm1, hm2]
             refine ⟨(k + 1), (by omega), by omega, ?_⟩
             try simp only [maskL, setsL, putsO, putO, mB, List.set_cons_zero, List.set_cons_succ, seval, ActT.cells, hgk, hkg, hkl, hnv, hnp, hbk, hqs, hnx, hm1, hm2]
             exact Weak.mk (by simp only [go_sem, Le.refl, Le.any, Le.slNil, Int.natCast_add, Int.cast_ofNat_Int, Int.natCast_one]) (fun _ _ h => h) rfl rfl
            ·
             have e111 : ¬ c.toNat = 111 := (by have h9 := hb70; simp at h9; omega)
             refine AWp_seqK fun Y1 y1 => ?_
             refine AWp_region ?_
             refine aops_chunk 1 fun Q0 q0 => ?_
             simp only [↓bO, go_sem, seval, ActT.cells, gl_uses, ev_glob, hgk, hkg, hkl, hnv, hnp, hbk, hqs]
             refine q0 _ ?_
             clear q0 Q0
             simp only [go_sem]
             simp only [↓bO, go_sem, seval, ActT.cells, gl_uses, ev_glob, hgk, hkg, hkl, hnv, hnp, hbk, hqs]
             refine y1 _ ?_
             try clear y1 Y1
             refine AWp_cond rfl (fun hb78 => ?_) (fun hb78 => ?_)
             ·
              have e117 : c.toNat = 117 := (by have h9 := hb78; simp at h9; omega)
              have hnx : lineS a (lineK a k) c.toNat = lineK a k ++ ((⟨#[32]⟩ : ByteArray) ++ itS a.n) := by (unfold lineS; rw [if_neg (by omega), if_neg (by omega), if_neg (by omega), if_neg (by omega), if_pos e117]; rfl)
              have hm1 : (((((#[32] : Array UInt8).size + (itS a.n).size) : Nat) : Int) ≤ IntKind.i64.max) = True := eq_true (by (show ((((#[32] : Array UInt8).size + (itS a.n).size) : Nat) : Int) ≤ 9223372036854775807); omega)
              have hm2 : (((((lineK a k).size + ((#[32] : Array UInt8).size + (itS a.n).size)) : Nat) : Int) ≤ IntKind.i64.max) = True := eq_true (by (show ((((lineK a k).size + ((#[32] : Array UInt8).size + (itS a.n).size)) : Nat) : Int) ≤ 9223372036854775807); omega)
              refine AWp_region ?_
              iterate 3 (refine aops_chunk 1 fun Q0 q0 => ?_; simp only [↓bO, go_sem, seval, ActT.cells, gl_uses, ev_glob, hgk, hkg, hkl, hnv, hnp, hbk, hqs, hnx, hm1, hm2]; refine q0 _ ?_; clear q0 Q0; simp only [go_sem])
              refine aops_chunk 1 fun Q0 q0 => ?_
              simp only [↓bO, go_sem, seval, ActT.cells, gl_uses, ev_glob, hgk, hkg, hkl, hnv, hnp, hbk, hqs, hnx, hm1, hm2]
              refine APure.call (TItoa_pure a.n f3.1 f3.2) ?_
              try simp only [bS, bA, thenQ, blockQ, noGotoQ]
              iterate 2 (refine q0 _ ?_; clear q0 Q0; simp only [go_sem]; refine aops_chunk 1 fun Q0 q0 => ?_; simp only [↓bO, go_sem, seval, ActT.cells, gl_uses, ev_glob, hgk, hkg, hkl, hnv, hnp, hbk, hqs, hnx, hm1, hm2])
              refine q0 _ ?_
              clear q0 Q0
              simp only [go_sem]
              simp only [↓bO, go_sem, seval, ActT.cells, gl_uses, ev_glob, hgk, hkg, hkl, hnv, hnp, hbk, hqs, hnx, hm1, hm2]
              refine ⟨(k + 1), (by omega), by omega, ?_⟩
              try simp only [maskL, setsL, putsO, putO, mB, List.set_cons_zero, List.set_cons_succ, seval, ActT.cells, hgk, hkg, hkl, hnv, hnp, hbk, hqs, hnx, hm1, hm2]
              exact Weak.mk (by simp only [go_sem, Le.refl, Le.any, Le.slNil, Int.natCast_add, Int.cast_ofNat_Int, Int.natCast_one]) (fun _ _ h => h) rfl rfl
             ·
              have e117 : ¬ c.toNat = 117 := (by have h9 := hb78; simp at h9; omega)
              refine AWp_seqK fun Y1 y1 => ?_
              refine AWp_region ?_
              refine aops_chunk 1 fun Q0 q0 => ?_
              simp only [↓bO, go_sem, seval, ActT.cells, gl_uses, ev_glob, hgk, hkg, hkl, hnv, hnp, hbk, hqs]
              refine q0 _ ?_
              clear q0 Q0
              simp only [go_sem]
              simp only [↓bO, go_sem, seval, ActT.cells, gl_uses, ev_glob, hgk, hkg, hkl, hnv, hnp, hbk, hqs]
              refine y1 _ ?_
              try clear y1 Y1
              refine AWp_cond rfl (fun hb86 => ?_) (fun hb86 => ?_)
              ·
               have e108 : c.toNat = 108 := (by have h9 := hb86; simp at h9; omega)
               have hnx : lineS a (lineK a k) c.toNat = lineK a k ++ ((⟨#[32]⟩ : ByteArray) ++ itS a.lb ++ (⟨#[32]⟩ : ByteArray) ++ itS a.ld ++ (⟨#[32]⟩ : ByteArray) ++ itS a.le) := by (unfold lineS; rw [if_neg (by omega), if_neg (by omega), if_neg (by omega), if_neg (by omega), if_neg (by omega), if_pos e108]; rfl)
               have hm1 : (((((#[32] : Array UInt8).size + (itS a.lb).size) : Nat) : Int) ≤ IntKind.i64.max) = True := eq_true (by (show ((((#[32] : Array UInt8).size + (itS a.lb).size) : Nat) : Int) ≤ 9223372036854775807); omega)
               have hm2 : ((((((#[32] : Array UInt8).size + (itS a.lb).size) + (#[32] : Array UInt8).size) : Nat) : Int) ≤ IntKind.i64.max) = True := eq_true (by (show (((((#[32] : Array UInt8).size + (itS a.lb).size) + (#[32] : Array UInt8).size) : Nat) : Int) ≤ 9223372036854775807); omega)
               have hm3 : (((((((#[32] : Array UInt8).size + (itS a.lb).size) + (#[32] : Array UInt8).size) + (itS a.ld).size) : Nat) : Int) ≤ IntKind.i64.max) = True := eq_true (by (show ((((((#[32] : Array UInt8).size + (itS a.lb).size) + (#[32] : Array UInt8).size) + (itS a.ld).size) : Nat) : Int) ≤ 9223372036854775807); omega)
               have hm4 : ((((((((#[32] : Array UInt8).size + (itS a.lb).size) + (#[32] : Array UInt8).size) + (itS a.ld).size) + (#[32] : Array UInt8).size) : Nat) : Int) ≤ IntKind.i64.max) = True := eq_true (by (show (((((((#[32] : Array UInt8).size + (itS a.lb).size) + (#[32] : Array UInt8).size) + (itS a.ld).size) + (#[32] : Array UInt8).size) : Nat) : Int) ≤ 9223372036854775807); omega)
               have hm5 : (((((((((#[32] : Array UInt8).size + (itS a.lb).size) + (#[32] : Array UInt8).size) + (itS a.ld).size) + (#[32] : Array UInt8).size) + (itS a.le).size) : Nat) : Int) ≤ IntKind.i64.max) = True := eq_true (by (show ((((((((#[32] : Array UInt8).size + (itS a.lb).size) + (#[32] : Array UInt8).size) + (itS a.ld).size) + (#[32] : Array UInt8).size) + (itS a.le).size) : Nat) : Int) ≤ 9223372036854775807); omega)
               have hm6 : (((((lineK a k).size + ((((((#[32] : Array UInt8).size + (itS a.lb).size) + (#[32] : Array UInt8).size) + (itS a.ld).size) + (#[32] : Array UInt8).size) + (itS a.le).size)) : Nat) : Int) ≤ IntKind.i64.max) = True := eq_true (by (show ((((lineK a k).size + ((((((#[32] : Array UInt8).size + (itS a.lb).size) + (#[32] : Array UInt8).size) + (itS a.ld).size) + (#[32] : Array UInt8).size) + (itS a.le).size)) : Nat) : Int) ≤ 9223372036854775807); omega)
               refine AWp_drawK 19 mixed (by kernel_rfl) fun J0 j0 => ?_
               iterate 4 (simp only [go_sem]; refine dRun_chunk 1 fun Q0 q0 => ?_; simp only [↓dRun, ↓dOp, ↓bO, go_sem, seval, ActT.cells, gl_uses, ev_glob, hgk, hkg, hkl, hnv, hnp, hbk, hqs, hnx, hm1, hm2, hm3, hm4, hm5, hm6]; refine q0 _ ?_; clear q0 Q0)
               simp only [go_sem]
               refine dRun_chunk 1 fun Q0 q0 => ?_
               simp only [↓dRun, ↓dOp, ↓bO, go_sem, seval, ActT.cells, gl_uses, ev_glob, hgk, hkg, hkl, hnv, hnp, hbk, hqs, hnx, hm1, hm2, hm3, hm4, hm5, hm6]
               refine ⟨_, TItoa_pure a.lb f4.1 f4.2, ?_⟩
               try simp only [bS, bA, thenQ, blockQ, noGotoQ]
               iterate 6 (refine q0 _ ?_; clear q0 Q0; simp only [go_sem]; refine dRun_chunk 1 fun Q0 q0 => ?_; simp only [↓dRun, ↓dOp, ↓bO, go_sem, seval, ActT.cells, gl_uses, ev_glob, hgk, hkg, hkl, hnv, hnp, hbk, hqs, hnx, hm1, hm2, hm3, hm4, hm5, hm6])
               refine ⟨_, TItoa_pure a.ld f5.1 f5.2, ?_⟩
               try simp only [bS, bA, thenQ, blockQ, noGotoQ]
               iterate 6 (refine q0 _ ?_; clear q0 Q0; simp only [go_sem]; refine dRun_chunk 1 fun Q0 q0 => ?_; simp only [↓dRun, ↓dOp, ↓bO, go_sem, seval, ActT.cells, gl_uses, ev_glob, hgk, hkg, hkl, hnv, hnp, hbk, hqs, hnx, hm1, hm2, hm3, hm4, hm5, hm6])
               refine ⟨_, TItoa_pure a.le f6.1 f6.2, ?_⟩
               try simp only [bS, bA, thenQ, blockQ, noGotoQ]
               refine q0 _ ?_
               clear q0 Q0
               simp only [go_sem]
               refine dRun_chunk 1 fun Q0 q0 => ?_
               simp only [↓dRun, ↓dOp, ↓bO, go_sem, seval, ActT.cells, gl_uses, ev_glob, hgk, hkg, hkl, hnv, hnp, hbk, hqs, hnx, hm1, hm2, hm3, hm4, hm5, hm6]
               refine q0 _ ?_
               clear q0 Q0
               simp only [go_sem]
               simp only [↓dRun, ↓dOp, ↓bO, go_sem, seval, ActT.cells, gl_uses, ev_glob, hgk, hkg, hkl, hnv, hnp, hbk, hqs, hnx, hm1, hm2, hm3, hm4, hm5, hm6]
               refine j0 _ ?_
               clear j0 J0
               simp only [go_sem]
               simp only [↓bO, go_sem, seval, ActT.cells, gl_uses, ev_glob, hgk, hkg, hkl, hnv, hnp, hbk, hqs, hnx, hm1, hm2, hm3, hm4, hm5, hm6]
               refine ⟨(k + 1), (by omega), by omega, ?_⟩
               try simp only [maskL, setsL, putsO, putO, mB, List.set_cons_zero, List.set_cons_succ, seval, ActT.cells, hgk, hkg, hkl, hnv, hnp, hbk, hqs, hnx, hm1, hm2, hm3, hm4, hm5, hm6]
               exact Weak.mk (by simp only [go_sem, Le.refl, Le.any, Le.slNil, Int.natCast_add, Int.cast_ofNat_Int, Int.natCast_one]) (fun _ _ h => h) rfl rfl
              ·
               have e108 : ¬ c.toNat = 108 := (by have h9 := hb86; simp at h9; omega)
               have hnx : lineS a (lineK a k) c.toNat = lineK a k := by (unfold lineS; rw [if_neg e110, if_neg e116, if_neg e102, if_neg e111, if_neg e117, if_neg e108])
               refine AWp_skip ?_
               try simp only [thenQ, blockQ, noGotoQ]
               refine ⟨(k + 1), (by omega), by omega, ?_⟩
               try simp only [maskL, setsL, putsO, putO, mB, List.set_cons_zero, List.set_cons_succ, seval, ActT.cells, hgk, hkg, hkl, hnv, hnp, hbk, hqs, hnx]
               exact Weak.mk (by simp only [go_sem, Le.refl, Le.any, Le.slNil, Int.natCast_add, Int.cast_ofNat_Int, Int.natCast_one]) (fun _ _ h => h) rfl rfl
        ·
         have hge : ¬ k < (usS a.k).size := (by have h9 := hb44; simpa using h9)
         have hba := lineK_all hk1 hge
         refine AWp_exit ?_
         simp only [thenQ, blockQ, noGotoQ, bA, Nat.reduceEqDiff, ↓reduceIte]
         refine y0 _ ?_
         try clear y0 Y0
         refine AWp_seqK fun Y0 y0 => ?_
         refine AWp_region ?_
         iterate 2 (refine aops_chunk 1 fun Q0 q0 => ?_; simp only [↓bO, go_sem, seval, ActT.cells, gl_uses, ev_glob, hgk, hkg, hkl, hba]; refine q0 _ ?_; clear q0 Q0; simp only [go_sem])
         simp only [↓bO, go_sem, seval, ActT.cells, gl_uses, ev_glob, hgk, hkg, hkl, hba]
         refine y0 _ ?_
         try clear y0 Y0
         refine AWp_ret ?_
         try simp only [thenQ, blockQ, noGotoQ, retQ, aRes, tupOf, bS, bA]
         rw [lineA_ok ((ActT.err_yes hk1 hyes).trans (if_neg (by omega)))]
         exact Le.refl _
def namedB (k : Int) : Bool := decide (1 ≤ k) && decide (k ≤ 5)
theorem ActT.err1 {a : ActT} (h : decide a.e1 = true) : a.err = 1 := if_pos (of_decide_eq_true h)
theorem ActT.err2 {a : ActT} (h : decide a.e2 = true) : a.err = 1 := by
  unfold ActT.err
  split
  · rfl
  · rw [if_pos (of_decide_eq_true h)]
theorem ActT.err3 {a : ActT} (h1 : decide a.e1 = false) (h2 : decide a.e2 = false) : a.err = if a.text.size > 4096 then 2 else 0 := by
  unfold ActT.err
  rw [if_neg (of_decide_eq_false h1), if_neg (of_decide_eq_false h2)]
theorem strNe (s : ByteArray) : (!(s.toList == (⟨#[]⟩ : ByteArray).toList)) = decide (s.size ≠ 0) := by
  rw [Bool.eq_iff_iff]
  simp only [Bool.not_eq_true', decide_eq_true_eq, Ne]
  rw [← Bool.not_eq_true, eqL_iff, size0]; rfl
theorem rl1 {a : ActT} (h : a.k = 1) : (⟨#[111, 112, 101, 110, 32]⟩ : ByteArray) ++ a.name ++ (⟨#[32]⟩ : ByteArray) ++ quS a.text = a.text' := by
  obtain ⟨k, name, p1, p2, text, n, lb, ld, le⟩ := a
  simp only at h
  subst h
  apply tb_inj
  simp only [ActT.text', tb_ofL, ActT.ws, joinW, quS, itS_tb, Int.reduceEq, ↓reduceIte, tb_app]
  simp [tb, wdS, itS, ofL]
theorem rl2 {a : ActT} (h : a.k = 2) : (⟨#[101, 100, 105, 116, 32]⟩ : ByteArray) ++ a.name ++ (⟨#[32]⟩ : ByteArray) ++ itS a.p1 ++ (⟨#[32]⟩ : ByteArray) ++ itS a.p2 ++ (⟨#[32]⟩ : ByteArray) ++ quS a.text = a.text' := by
  obtain ⟨k, name, p1, p2, text, n, lb, ld, le⟩ := a
  simp only at h
  subst h
  apply tb_inj
  simp only [ActT.text', tb_ofL, ActT.ws, joinW, quS, itS_tb, Int.reduceEq, ↓reduceIte, tb_app]
  simp [tb, wdS, itS, ofL]
theorem rl3 {a : ActT} (h : a.k = 3) : (⟨#[99, 108, 111, 115, 101, 32]⟩ : ByteArray) ++ a.name = a.text' := by
  obtain ⟨k, name, p1, p2, text, n, lb, ld, le⟩ := a
  simp only at h
  subst h
  apply tb_inj
  simp only [ActT.text', tb_ofL, ActT.ws, joinW, quS, itS_tb, Int.reduceEq, ↓reduceIte, tb_app]
  simp [tb, wdS, itS, ofL]
theorem rl4 {a : ActT} (h : a.k = 4) : (⟨#[99, 104, 101, 99, 107, 32]⟩ : ByteArray) ++ a.name = a.text' := by
  obtain ⟨k, name, p1, p2, text, n, lb, ld, le⟩ := a
  simp only at h
  subst h
  apply tb_inj
  simp only [ActT.text', tb_ofL, ActT.ws, joinW, quS, itS_tb, Int.reduceEq, ↓reduceIte, tb_app]
  simp [tb, wdS, itS, ofL]
theorem rl5 {a : ActT} (h : a.k = 5) : (⟨#[114, 117, 110, 32]⟩ : ByteArray) ++ a.name ++ (⟨#[32]⟩ : ByteArray) ++ itS a.n = a.text' := by
  obtain ⟨k, name, p1, p2, text, n, lb, ld, le⟩ := a
  simp only at h
  subst h
  apply tb_inj
  simp only [ActT.text', tb_ofL, ActT.ws, joinW, quS, itS_tb, Int.reduceEq, ↓reduceIte, tb_app]
  simp [tb, wdS, itS, ofL]
theorem rl6 {a : ActT} (h : a.k = 6) : (⟨#[108, 105, 109, 105, 116, 32]⟩ : ByteArray) ++ itS a.lb ++ (⟨#[32]⟩ : ByteArray) ++ itS a.ld ++ (⟨#[32]⟩ : ByteArray) ++ itS a.le = a.text' := by
  obtain ⟨k, name, p1, p2, text, n, lb, ld, le⟩ := a
  simp only at h
  subst h
  apply tb_inj
  simp only [ActT.text', tb_ofL, ActT.ws, joinW, quS, itS_tb, Int.reduceEq, ↓reduceIte, tb_app]
  simp [tb, wdS, itS, ofL]
theorem rl7 {a : ActT} (h : a.k = 7) : (⟨#[108, 105, 115, 116]⟩ : ByteArray) = a.text' := by
  obtain ⟨k, name, p1, p2, text, n, lb, ld, le⟩ := a
  simp only at h
  subst h
  apply tb_inj
  simp only [ActT.text', tb_ofL, ActT.ws, joinW, quS, itS_tb, Int.reduceEq, ↓reduceIte, tb_app]
  simp [tb, wdS, itS, ofL]
theorem RLine_pure (a : ActT) (hf : a.fits) (hn : a.name.size ≤ 9223372036854775807) (ht0 : a.text.size ≤ 9223372036854775807) : APure Tryd.prog 18 [.agg a.cells] (lineA a) := by
  refine APure.mkL (.cons a.dataAgg .nil) ((lineA_data a)) ?_
  refine ACalls_intro Tryd.func18 (by kernel_rfl) rfl (by rw [Tryd.ntmps18]; simp) (fun hm => ?_)
  simp only [Tryd.ntmps18, Tryd.results18, List.length_cons, List.length_nil, Nat.reduceAdd, Nat.reduceSub, List.replicate_succ, List.replicate_zero, List.cons_append, List.nil_append]
  have hf0 := hf
  obtain ⟨f1, f2, f3, f4, f5, f6⟩ := hf0
  refine AWp_seqK fun Y0 y0 => ?_
  refine AWp_region ?_
  iterate 2 (refine aops_chunk 1 fun Q0 q0 => ?_; simp only [↓bO, go_sem, seval, ActT.cells]; refine q0 _ ?_; clear q0 Q0; simp only [go_sem])
  simp only [↓bO, go_sem, seval, ActT.cells]
  refine y0 _ ?_
  try clear y0 Y0
  refine AWp_joinM (mB 158 18) ([(4, .v (.bool (namedB a.k)))]) ([]) ?_ ?_
  ·
   refine AWp_region ?_
   iterate 4 (refine aops_chunk 1 fun Q0 q0 => ?_; simp only [↓bO, go_sem, seval, ActT.cells]; refine q0 _ ?_; clear q0 Q0; simp only [go_sem])
   refine aops_case 8 rfl (fun hc8 => ?_) (fun hc8 => ?_)
   ·
    simp only [List.set_cons_zero, List.set_cons_succ]
    iterate 4 (refine aops_chunk 1 fun Q0 q0 => ?_; simp only [↓bO, go_sem, seval, ActT.cells]; refine q0 _ ?_; clear q0 Q0; simp only [go_sem])
    simp only [↓bO, go_sem, seval, ActT.cells]
    try simp only [maskL, setsL, putsO, putO, mB, List.set_cons_zero, List.set_cons_succ, seval]
    refine Weak.mk ?_ (fun _ _ h => h) rfl rfl
    simp only [go_sem, Le.refl, Le.any]
    all_goals (refine Le.of_eq (congrArg (fun b => AV.v (.bool b)) ?_); (try simp only [strNe] at *); grind [ActT.e1, ActT.e2, namedB])
   ·
    simp only [List.set_cons_zero, List.set_cons_succ]
    iterate 4 (refine aops_chunk 1 fun Q0 q0 => ?_; simp only [↓bO, go_sem, seval, ActT.cells]; refine q0 _ ?_; clear q0 Q0; simp only [go_sem])
    simp only [↓bO, go_sem, seval, ActT.cells]
    try simp only [maskL, setsL, putsO, putO, mB, List.set_cons_zero, List.set_cons_succ, seval]
    refine Weak.mk ?_ (fun _ _ h => h) rfl rfl
    simp only [go_sem, Le.refl, Le.any]
    all_goals (refine Le.of_eq (congrArg (fun b => AV.v (.bool b)) ?_); (try simp only [strNe] at *); grind [ActT.e1, ActT.e2, namedB])
  simp only [maskL, setsL, putsO, putO, mB, List.set_cons_zero, List.set_cons_succ, seval]
  refine AWp_seqK fun Y0 y0 => ?_
  refine AWp_joinM (mB 158 274877906946) ([(38, .v (.bool (decide a.e1)))]) ([]) ?_ ?_
  ·
   refine AWp_region ?_
   iterate 4 (refine aops_chunk 1 fun Q0 q0 => ?_; simp only [↓bO, go_sem, seval, ActT.cells]; refine q0 _ ?_; clear q0 Q0; simp only [go_sem])
   refine aops_case 16 rfl (fun hc16 => ?_) (fun hc16 => ?_)
   ·
    simp only [List.set_cons_zero, List.set_cons_succ]
    iterate 21 (refine aops_chunk 1 fun Q0 q0 => ?_; simp only [↓bO, go_sem, seval, ActT.cells]; refine q0 _ ?_; clear q0 Q0; simp only [go_sem])
    simp only [↓bO, go_sem, seval, ActT.cells]
    try simp only [maskL, setsL, putsO, putO, mB, List.set_cons_zero, List.set_cons_succ, seval]
    refine Weak.mk ?_ (fun _ _ h => h) rfl rfl
    simp only [go_sem, Le.refl, Le.any]
    all_goals (refine Le.of_eq (congrArg (fun b => AV.v (.bool b)) ?_); (try simp only [strNe] at *); grind [ActT.e1, ActT.e2, namedB])
   ·
    simp only [List.set_cons_zero, List.set_cons_succ]
    iterate 5 (refine aops_chunk 1 fun Q0 q0 => ?_; simp only [↓bO, go_sem, seval, ActT.cells]; refine q0 _ ?_; clear q0 Q0; simp only [go_sem])
    refine aops_case 21 rfl (fun hc21 => ?_) (fun hc21 => ?_)
    ·
     simp only [List.set_cons_zero, List.set_cons_succ]
     iterate 16 (refine aops_chunk 1 fun Q0 q0 => ?_; simp only [↓bO, go_sem, seval, ActT.cells]; refine q0 _ ?_; clear q0 Q0; simp only [go_sem])
     simp only [↓bO, go_sem, seval, ActT.cells]
     try simp only [maskL, setsL, putsO, putO, mB, List.set_cons_zero, List.set_cons_succ, seval]
     refine Weak.mk ?_ (fun _ _ h => h) rfl rfl
     simp only [go_sem, Le.refl, Le.any]
     all_goals (refine Le.of_eq (congrArg (fun b => AV.v (.bool b)) ?_); (try simp only [strNe] at *); grind [ActT.e1, ActT.e2, namedB])
    ·
     simp only [List.set_cons_zero, List.set_cons_succ]
     iterate 3 (refine aops_chunk 1 fun Q0 q0 => ?_; simp only [↓bO, go_sem, seval, ActT.cells]; refine q0 _ ?_; clear q0 Q0; simp only [go_sem])
     refine aops_case 24 rfl (fun hc24 => ?_) (fun hc24 => ?_)
     ·
      simp only [List.set_cons_zero, List.set_cons_succ]
      iterate 6 (refine aops_chunk 1 fun Q0 q0 => ?_; simp only [↓bO, go_sem, seval, ActT.cells]; refine q0 _ ?_; clear q0 Q0; simp only [go_sem])
      refine aops_case 30 rfl (fun hc30 => ?_) (fun hc30 => ?_)
      ·
       simp only [List.set_cons_zero, List.set_cons_succ]
       iterate 7 (refine aops_chunk 1 fun Q0 q0 => ?_; simp only [↓bO, go_sem, seval, ActT.cells]; refine q0 _ ?_; clear q0 Q0; simp only [go_sem])
       simp only [↓bO, go_sem, seval, ActT.cells]
       try simp only [maskL, setsL, putsO, putO, mB, List.set_cons_zero, List.set_cons_succ, seval]
       refine Weak.mk ?_ (fun _ _ h => h) rfl rfl
       simp only [go_sem, Le.refl, Le.any]
       all_goals (refine Le.of_eq (congrArg (fun b => AV.v (.bool b)) ?_); (try simp only [strNe] at *); grind [ActT.e1, ActT.e2, namedB])
      ·
       simp only [List.set_cons_zero, List.set_cons_succ]
       iterate 2 (refine aops_chunk 1 fun Q0 q0 => ?_; simp only [↓bO, go_sem, seval, ActT.cells]; refine q0 _ ?_; clear q0 Q0; simp only [go_sem])
       refine aops_case 32 rfl (fun hc32 => ?_) (fun hc32 => ?_)
       ·
        simp only [List.set_cons_zero, List.set_cons_succ]
        iterate 2 (refine aops_chunk 1 fun Q0 q0 => ?_; simp only [↓bO, go_sem, seval, ActT.cells]; refine q0 _ ?_; clear q0 Q0; simp only [go_sem])
        refine aops_chunk 1 fun Q0 q0 => ?_
        simp only [↓bO, go_sem, seval, ActT.cells]
        refine APure.call (RName_pure a.name hn) ?_
        try simp only [bS, bA, thenQ, blockQ, noGotoQ]
        iterate 2 (refine q0 _ ?_; clear q0 Q0; simp only [go_sem]; refine aops_chunk 1 fun Q0 q0 => ?_; simp only [↓bO, go_sem, seval, ActT.cells])
        refine q0 _ ?_
        clear q0 Q0
        simp only [go_sem]
        simp only [↓bO, go_sem, seval, ActT.cells]
        try simp only [maskL, setsL, putsO, putO, mB, List.set_cons_zero, List.set_cons_succ, seval]
        refine Weak.mk ?_ (fun _ _ h => h) rfl rfl
        simp only [go_sem, Le.refl, Le.any]
        all_goals (refine Le.of_eq (congrArg (fun b => AV.v (.bool b)) ?_); (try simp only [strNe] at *); grind [ActT.e1, ActT.e2, namedB])
       ·
        simp only [List.set_cons_zero, List.set_cons_succ]
        iterate 5 (refine aops_chunk 1 fun Q0 q0 => ?_; simp only [↓bO, go_sem, seval, ActT.cells]; refine q0 _ ?_; clear q0 Q0; simp only [go_sem])
        simp only [↓bO, go_sem, seval, ActT.cells]
        try simp only [maskL, setsL, putsO, putO, mB, List.set_cons_zero, List.set_cons_succ, seval]
        refine Weak.mk ?_ (fun _ _ h => h) rfl rfl
        simp only [go_sem, Le.refl, Le.any]
        all_goals (refine Le.of_eq (congrArg (fun b => AV.v (.bool b)) ?_); (try simp only [strNe] at *); grind [ActT.e1, ActT.e2, namedB])
     ·
      simp only [List.set_cons_zero, List.set_cons_succ]
      iterate 8 (refine aops_chunk 1 fun Q0 q0 => ?_; simp only [↓bO, go_sem, seval, ActT.cells]; refine q0 _ ?_; clear q0 Q0; simp only [go_sem])
      refine aops_case 32 rfl (fun hc32 => ?_) (fun hc32 => ?_)
      ·
       simp only [List.set_cons_zero, List.set_cons_succ]
       iterate 2 (refine aops_chunk 1 fun Q0 q0 => ?_; simp only [↓bO, go_sem, seval, ActT.cells]; refine q0 _ ?_; clear q0 Q0; simp only [go_sem])
       refine aops_chunk 1 fun Q0 q0 => ?_
       simp only [↓bO, go_sem, seval, ActT.cells]
       refine APure.call (RName_pure a.name hn) ?_
       try simp only [bS, bA, thenQ, blockQ, noGotoQ]
       iterate 2 (refine q0 _ ?_; clear q0 Q0; simp only [go_sem]; refine aops_chunk 1 fun Q0 q0 => ?_; simp only [↓bO, go_sem, seval, ActT.cells])
       refine q0 _ ?_
       clear q0 Q0
       simp only [go_sem]
       simp only [↓bO, go_sem, seval, ActT.cells]
       try simp only [maskL, setsL, putsO, putO, mB, List.set_cons_zero, List.set_cons_succ, seval]
       refine Weak.mk ?_ (fun _ _ h => h) rfl rfl
       simp only [go_sem, Le.refl, Le.any]
       all_goals (refine Le.of_eq (congrArg (fun b => AV.v (.bool b)) ?_); (try simp only [strNe] at *); grind [ActT.e1, ActT.e2, namedB])
      ·
       simp only [List.set_cons_zero, List.set_cons_succ]
       iterate 5 (refine aops_chunk 1 fun Q0 q0 => ?_; simp only [↓bO, go_sem, seval, ActT.cells]; refine q0 _ ?_; clear q0 Q0; simp only [go_sem])
       simp only [↓bO, go_sem, seval, ActT.cells]
       try simp only [maskL, setsL, putsO, putO, mB, List.set_cons_zero, List.set_cons_succ, seval]
       refine Weak.mk ?_ (fun _ _ h => h) rfl rfl
       simp only [go_sem, Le.refl, Le.any]
       all_goals (refine Le.of_eq (congrArg (fun b => AV.v (.bool b)) ?_); (try simp only [strNe] at *); grind [ActT.e1, ActT.e2, namedB])
  simp only [maskL, setsL, putsO, putO, mB, List.set_cons_zero, List.set_cons_succ, seval]
  refine AWp_cond rfl (fun hb38 => ?_) (fun hb38 => ?_)
  ·
   have he1 : decide a.e1 = true := hb38
   refine AWp_seqK fun Y1 y1 => ?_
   refine AWp_region ?_
   refine aops_chunk 1 fun Q0 q0 => ?_
   simp only [↓bO, go_sem, seval, ActT.cells]
   refine q0 _ ?_
   clear q0 Q0
   simp only [go_sem]
   simp only [↓bO, go_sem, seval, ActT.cells]
   refine y1 _ ?_
   try clear y1 Y1
   refine AWp_ret ?_
   try simp only [thenQ, blockQ, noGotoQ, retQ, aRes, tupOf, bS, bA]
   rw [lineA_err (ActT.err1 he1) (by decide)]
   exact Le.refl _
  ·
   have he1 : decide a.e1 = false := hb38
   refine AWp_skip ?_
   try simp only [thenQ, blockQ, noGotoQ]
   refine y0 _ ?_
   try clear y0 Y0
   refine AWp_seqK fun Y0 y0 => ?_
   refine AWp_joinM (mB 158 4835703278458516698824706) ([(82, .v (.bool (decide a.e2)))]) ([]) ?_ ?_
   ·
    refine AWp_region ?_
    iterate 4 (refine aops_chunk 1 fun Q0 q0 => ?_; simp only [↓bO, go_sem, seval, ActT.cells]; refine q0 _ ?_; clear q0 Q0; simp only [go_sem])
    refine aops_case 42 rfl (fun hc42 => ?_) (fun hc42 => ?_)
    ·
     simp only [List.set_cons_zero, List.set_cons_succ]
     iterate 4 (refine aops_chunk 1 fun Q0 q0 => ?_; simp only [↓bO, go_sem, seval, ActT.cells]; refine q0 _ ?_; clear q0 Q0; simp only [go_sem])
     refine aops_case 46 rfl (fun hc46 => ?_) (fun hc46 => ?_)
     ·
      simp only [List.set_cons_zero, List.set_cons_succ]
      iterate 33 (refine aops_chunk 1 fun Q0 q0 => ?_; simp only [↓bO, go_sem, seval, ActT.cells]; refine q0 _ ?_; clear q0 Q0; simp only [go_sem])
      refine aops_chunk 1 fun Q0 q0 => ?_
      simp only [↓bO, go_sem, seval, i2t28, aEq2, eqt28, ActT.cells]
      refine q0 _ ?_
      clear q0 Q0
      simp only [go_sem]
      refine aops_chunk 1 fun Q0 q0 => ?_
      simp only [↓bO, go_sem, seval, ActT.cells]
      refine q0 _ ?_
      clear q0 Q0
      simp only [go_sem]
      simp only [↓bO, go_sem, seval, ActT.cells]
      try simp only [maskL, setsL, putsO, putO, mB, List.set_cons_zero, List.set_cons_succ, seval]
      refine Weak.mk ?_ (fun _ _ h => h) rfl rfl
      simp only [go_sem, Le.refl, Le.any]
      all_goals (refine Le.of_eq (congrArg (fun b => AV.v (.bool b)) ?_); (try simp only [strNe] at *); grind [ActT.e1, ActT.e2, namedB])
     ·
      simp only [List.set_cons_zero, List.set_cons_succ]
      iterate 6 (refine aops_chunk 1 fun Q0 q0 => ?_; simp only [↓bO, go_sem, seval, ActT.cells]; refine q0 _ ?_; clear q0 Q0; simp only [go_sem])
      refine aops_case 52 rfl (fun hc52 => ?_) (fun hc52 => ?_)
      ·
       simp only [List.set_cons_zero, List.set_cons_succ]
       iterate 27 (refine aops_chunk 1 fun Q0 q0 => ?_; simp only [↓bO, go_sem, seval, ActT.cells]; refine q0 _ ?_; clear q0 Q0; simp only [go_sem])
       refine aops_chunk 1 fun Q0 q0 => ?_
       simp only [↓bO, go_sem, seval, i2t28, aEq2, eqt28, ActT.cells]
       refine q0 _ ?_
       clear q0 Q0
       simp only [go_sem]
       refine aops_chunk 1 fun Q0 q0 => ?_
       simp only [↓bO, go_sem, seval, ActT.cells]
       refine q0 _ ?_
       clear q0 Q0
       simp only [go_sem]
       simp only [↓bO, go_sem, seval, ActT.cells]
       try simp only [maskL, setsL, putsO, putO, mB, List.set_cons_zero, List.set_cons_succ, seval]
       refine Weak.mk ?_ (fun _ _ h => h) rfl rfl
       simp only [go_sem, Le.refl, Le.any]
       all_goals (refine Le.of_eq (congrArg (fun b => AV.v (.bool b)) ?_); (try simp only [strNe] at *); grind [ActT.e1, ActT.e2, namedB])
      ·
       simp only [List.set_cons_zero, List.set_cons_succ]
       iterate 4 (refine aops_chunk 1 fun Q0 q0 => ?_; simp only [↓bO, go_sem, seval, ActT.cells]; refine q0 _ ?_; clear q0 Q0; simp only [go_sem])
       refine aops_case 56 rfl (fun hc56 => ?_) (fun hc56 => ?_)
       ·
        simp only [List.set_cons_zero, List.set_cons_succ]
        iterate 6 (refine aops_chunk 1 fun Q0 q0 => ?_; simp only [↓bO, go_sem, seval, ActT.cells]; refine q0 _ ?_; clear q0 Q0; simp only [go_sem])
        refine aops_case 62 rfl (fun hc62 => ?_) (fun hc62 => ?_)
        ·
         simp only [List.set_cons_zero, List.set_cons_succ]
         iterate 17 (refine aops_chunk 1 fun Q0 q0 => ?_; simp only [↓bO, go_sem, seval, ActT.cells]; refine q0 _ ?_; clear q0 Q0; simp only [go_sem])
         refine aops_chunk 1 fun Q0 q0 => ?_
         simp only [↓bO, go_sem, seval, i2t28, aEq2, eqt28, ActT.cells]
         refine q0 _ ?_
         clear q0 Q0
         simp only [go_sem]
         refine aops_chunk 1 fun Q0 q0 => ?_
         simp only [↓bO, go_sem, seval, ActT.cells]
         refine q0 _ ?_
         clear q0 Q0
         simp only [go_sem]
         simp only [↓bO, go_sem, seval, ActT.cells]
         try simp only [maskL, setsL, putsO, putO, mB, List.set_cons_zero, List.set_cons_succ, seval]
         refine Weak.mk ?_ (fun _ _ h => h) rfl rfl
         simp only [go_sem, Le.refl, Le.any]
         all_goals (refine Le.of_eq (congrArg (fun b => AV.v (.bool b)) ?_); (try simp only [strNe] at *); grind [ActT.e1, ActT.e2, namedB])
        ·
         simp only [List.set_cons_zero, List.set_cons_succ]
         iterate 4 (refine aops_chunk 1 fun Q0 q0 => ?_; simp only [↓bO, go_sem, seval, ActT.cells]; refine q0 _ ?_; clear q0 Q0; simp only [go_sem])
         refine aops_case 66 rfl (fun hc66 => ?_) (fun hc66 => ?_)
         ·
          simp only [List.set_cons_zero, List.set_cons_succ]
          iterate 6 (refine aops_chunk 1 fun Q0 q0 => ?_; simp only [↓bO, go_sem, seval, ActT.cells]; refine q0 _ ?_; clear q0 Q0; simp only [go_sem])
          refine aops_case 72 rfl (fun hc72 => ?_) (fun hc72 => ?_)
          ·
           simp only [List.set_cons_zero, List.set_cons_succ]
           iterate 7 (refine aops_chunk 1 fun Q0 q0 => ?_; simp only [↓bO, go_sem, seval, ActT.cells]; refine q0 _ ?_; clear q0 Q0; simp only [go_sem])
           refine aops_chunk 1 fun Q0 q0 => ?_
           simp only [↓bO, go_sem, seval, i2t28, aEq2, eqt28, ActT.cells]
           refine q0 _ ?_
           clear q0 Q0
           simp only [go_sem]
           refine aops_chunk 1 fun Q0 q0 => ?_
           simp only [↓bO, go_sem, seval, ActT.cells]
           refine q0 _ ?_
           clear q0 Q0
           simp only [go_sem]
           simp only [↓bO, go_sem, seval, ActT.cells]
           try simp only [maskL, setsL, putsO, putO, mB, List.set_cons_zero, List.set_cons_succ, seval]
           refine Weak.mk ?_ (fun _ _ h => h) rfl rfl
           simp only [go_sem, Le.refl, Le.any]
           all_goals (refine Le.of_eq (congrArg (fun b => AV.v (.bool b)) ?_); (try simp only [strNe] at *); grind [ActT.e1, ActT.e2, namedB])
          ·
           simp only [List.set_cons_zero, List.set_cons_succ]
           iterate 4 (refine aops_chunk 1 fun Q0 q0 => ?_; simp only [↓bO, go_sem, seval, ActT.cells]; refine q0 _ ?_; clear q0 Q0; simp only [go_sem])
           refine aops_case 76 rfl (fun hc76 => ?_) (fun hc76 => ?_)
           ·
            simp only [List.set_cons_zero, List.set_cons_succ]
            iterate 3 (refine aops_chunk 1 fun Q0 q0 => ?_; simp only [↓bO, go_sem, seval, ActT.cells]; refine q0 _ ?_; clear q0 Q0; simp only [go_sem])
            refine aops_chunk 1 fun Q0 q0 => ?_
            simp only [↓bO, go_sem, seval, i2t28, aEq2, eqt28, ActT.cells]
            refine q0 _ ?_
            clear q0 Q0
            simp only [go_sem]
            refine aops_chunk 1 fun Q0 q0 => ?_
            simp only [↓bO, go_sem, seval, ActT.cells]
            refine q0 _ ?_
            clear q0 Q0
            simp only [go_sem]
            simp only [↓bO, go_sem, seval, ActT.cells]
            try simp only [maskL, setsL, putsO, putO, mB, List.set_cons_zero, List.set_cons_succ, seval]
            refine Weak.mk ?_ (fun _ _ h => h) rfl rfl
            simp only [go_sem, Le.refl, Le.any]
            all_goals (refine Le.of_eq (congrArg (fun b => AV.v (.bool b)) ?_); (try simp only [strNe] at *); grind [ActT.e1, ActT.e2, namedB])
           ·
            simp only [List.set_cons_zero, List.set_cons_succ]
            iterate 3 (refine aops_chunk 1 fun Q0 q0 => ?_; simp only [↓bO, go_sem, seval, ActT.cells]; refine q0 _ ?_; clear q0 Q0; simp only [go_sem])
            refine aops_chunk 1 fun Q0 q0 => ?_
            simp only [↓bO, go_sem, seval, i2t28, aEq2, eqt28, ActT.cells]
            refine q0 _ ?_
            clear q0 Q0
            simp only [go_sem]
            refine aops_chunk 1 fun Q0 q0 => ?_
            simp only [↓bO, go_sem, seval, ActT.cells]
            refine q0 _ ?_
            clear q0 Q0
            simp only [go_sem]
            simp only [↓bO, go_sem, seval, ActT.cells]
            try simp only [maskL, setsL, putsO, putO, mB, List.set_cons_zero, List.set_cons_succ, seval]
            refine Weak.mk ?_ (fun _ _ h => h) rfl rfl
            simp only [go_sem, Le.refl, Le.any]
            all_goals (refine Le.of_eq (congrArg (fun b => AV.v (.bool b)) ?_); (try simp only [strNe] at *); grind [ActT.e1, ActT.e2, namedB])
         ·
          simp only [List.set_cons_zero, List.set_cons_succ]
          iterate 10 (refine aops_chunk 1 fun Q0 q0 => ?_; simp only [↓bO, go_sem, seval, ActT.cells]; refine q0 _ ?_; clear q0 Q0; simp only [go_sem])
          refine aops_case 76 rfl (fun hc76 => ?_) (fun hc76 => ?_)
          ·
           simp only [List.set_cons_zero, List.set_cons_succ]
           iterate 3 (refine aops_chunk 1 fun Q0 q0 => ?_; simp only [↓bO, go_sem, seval, ActT.cells]; refine q0 _ ?_; clear q0 Q0; simp only [go_sem])
           refine aops_chunk 1 fun Q0 q0 => ?_
           simp only [↓bO, go_sem, seval, i2t28, aEq2, eqt28, ActT.cells]
           refine q0 _ ?_
           clear q0 Q0
           simp only [go_sem]
           refine aops_chunk 1 fun Q0 q0 => ?_
           simp only [↓bO, go_sem, seval, ActT.cells]
           refine q0 _ ?_
           clear q0 Q0
           simp only [go_sem]
           simp only [↓bO, go_sem, seval, ActT.cells]
           try simp only [maskL, setsL, putsO, putO, mB, List.set_cons_zero, List.set_cons_succ, seval]
           refine Weak.mk ?_ (fun _ _ h => h) rfl rfl
           simp only [go_sem, Le.refl, Le.any]
           all_goals (refine Le.of_eq (congrArg (fun b => AV.v (.bool b)) ?_); (try simp only [strNe] at *); grind [ActT.e1, ActT.e2, namedB])
          ·
           simp only [List.set_cons_zero, List.set_cons_succ]
           iterate 3 (refine aops_chunk 1 fun Q0 q0 => ?_; simp only [↓bO, go_sem, seval, ActT.cells]; refine q0 _ ?_; clear q0 Q0; simp only [go_sem])
           refine aops_chunk 1 fun Q0 q0 => ?_
           simp only [↓bO, go_sem, seval, i2t28, aEq2, eqt28, ActT.cells]
           refine q0 _ ?_
           clear q0 Q0
           simp only [go_sem]
           refine aops_chunk 1 fun Q0 q0 => ?_
           simp only [↓bO, go_sem, seval, ActT.cells]
           refine q0 _ ?_
           clear q0 Q0
           simp only [go_sem]
           simp only [↓bO, go_sem, seval, ActT.cells]
           try simp only [maskL, setsL, putsO, putO, mB, List.set_cons_zero, List.set_cons_succ, seval]
           refine Weak.mk ?_ (fun _ _ h => h) rfl rfl
           simp only [go_sem, Le.refl, Le.any]
           all_goals (refine Le.of_eq (congrArg (fun b => AV.v (.bool b)) ?_); (try simp only [strNe] at *); grind [ActT.e1, ActT.e2, namedB])
       ·
        simp only [List.set_cons_zero, List.set_cons_succ]
        iterate 10 (refine aops_chunk 1 fun Q0 q0 => ?_; simp only [↓bO, go_sem, seval, ActT.cells]; refine q0 _ ?_; clear q0 Q0; simp only [go_sem])
        refine aops_case 66 rfl (fun hc66 => ?_) (fun hc66 => ?_)
        ·
         simp only [List.set_cons_zero, List.set_cons_succ]
         iterate 6 (refine aops_chunk 1 fun Q0 q0 => ?_; simp only [↓bO, go_sem, seval, ActT.cells]; refine q0 _ ?_; clear q0 Q0; simp only [go_sem])
         refine aops_case 72 rfl (fun hc72 => ?_) (fun hc72 => ?_)
         ·
          simp only [List.set_cons_zero, List.set_cons_succ]
          iterate 7 (refine aops_chunk 1 fun Q0 q0 => ?_; simp only [↓bO, go_sem, seval, ActT.cells]; refine q0 _ ?_; clear q0 Q0; simp only [go_sem])
          refine aops_chunk 1 fun Q0 q0 => ?_
          simp only [↓bO, go_sem, seval, i2t28, aEq2, eqt28, ActT.cells]
          refine q0 _ ?_
          clear q0 Q0
          simp only [go_sem]
          refine aops_chunk 1 fun Q0 q0 => ?_
          simp only [↓bO, go_sem, seval, ActT.cells]
          refine q0 _ ?_
          clear q0 Q0
          simp only [go_sem]
          simp only [↓bO, go_sem, seval, ActT.cells]
          try simp only [maskL, setsL, putsO, putO, mB, List.set_cons_zero, List.set_cons_succ, seval]
          refine Weak.mk ?_ (fun _ _ h => h) rfl rfl
          simp only [go_sem, Le.refl, Le.any]
          all_goals (refine Le.of_eq (congrArg (fun b => AV.v (.bool b)) ?_); (try simp only [strNe] at *); grind [ActT.e1, ActT.e2, namedB])
         ·
          simp only [List.set_cons_zero, List.set_cons_succ]
          iterate 4 (refine aops_chunk 1 fun Q0 q0 => ?_; simp only [↓bO, go_sem, seval, ActT.cells]; refine q0 _ ?_; clear q0 Q0; simp only [go_sem])
          refine aops_case 76 rfl (fun hc76 => ?_) (fun hc76 => ?_)
          ·
           simp only [List.set_cons_zero, List.set_cons_succ]
           iterate 3 (refine aops_chunk 1 fun Q0 q0 => ?_; simp only [↓bO, go_sem, seval, ActT.cells]; refine q0 _ ?_; clear q0 Q0; simp only [go_sem])
           refine aops_chunk 1 fun Q0 q0 => ?_
           simp only [↓bO, go_sem, seval, i2t28, aEq2, eqt28, ActT.cells]
           refine q0 _ ?_
           clear q0 Q0
           simp only [go_sem]
           refine aops_chunk 1 fun Q0 q0 => ?_
           simp only [↓bO, go_sem, seval, ActT.cells]
           refine q0 _ ?_
           clear q0 Q0
           simp only [go_sem]
           simp only [↓bO, go_sem, seval, ActT.cells]
           try simp only [maskL, setsL, putsO, putO, mB, List.set_cons_zero, List.set_cons_succ, seval]
           refine Weak.mk ?_ (fun _ _ h => h) rfl rfl
           simp only [go_sem, Le.refl, Le.any]
           all_goals (refine Le.of_eq (congrArg (fun b => AV.v (.bool b)) ?_); (try simp only [strNe] at *); grind [ActT.e1, ActT.e2, namedB])
          ·
           simp only [List.set_cons_zero, List.set_cons_succ]
           iterate 3 (refine aops_chunk 1 fun Q0 q0 => ?_; simp only [↓bO, go_sem, seval, ActT.cells]; refine q0 _ ?_; clear q0 Q0; simp only [go_sem])
           refine aops_chunk 1 fun Q0 q0 => ?_
           simp only [↓bO, go_sem, seval, i2t28, aEq2, eqt28, ActT.cells]
           refine q0 _ ?_
           clear q0 Q0
           simp only [go_sem]
           refine aops_chunk 1 fun Q0 q0 => ?_
           simp only [↓bO, go_sem, seval, ActT.cells]
           refine q0 _ ?_
           clear q0 Q0
           simp only [go_sem]
           simp only [↓bO, go_sem, seval, ActT.cells]
           try simp only [maskL, setsL, putsO, putO, mB, List.set_cons_zero, List.set_cons_succ, seval]
           refine Weak.mk ?_ (fun _ _ h => h) rfl rfl
           simp only [go_sem, Le.refl, Le.any]
           all_goals (refine Le.of_eq (congrArg (fun b => AV.v (.bool b)) ?_); (try simp only [strNe] at *); grind [ActT.e1, ActT.e2, namedB])
        ·
         simp only [List.set_cons_zero, List.set_cons_succ]
         iterate 10 (refine aops_chunk 1 fun Q0 q0 => ?_; simp only [↓bO, go_sem, seval, ActT.cells]; refine q0 _ ?_; clear q0 Q0; simp only [go_sem])
         refine aops_case 76 rfl (fun hc76 => ?_) (fun hc76 => ?_)
         ·
          simp only [List.set_cons_zero, List.set_cons_succ]
          iterate 3 (refine aops_chunk 1 fun Q0 q0 => ?_; simp only [↓bO, go_sem, seval, ActT.cells]; refine q0 _ ?_; clear q0 Q0; simp only [go_sem])
          refine aops_chunk 1 fun Q0 q0 => ?_
          simp only [↓bO, go_sem, seval, i2t28, aEq2, eqt28, ActT.cells]
          refine q0 _ ?_
          clear q0 Q0
          simp only [go_sem]
          refine aops_chunk 1 fun Q0 q0 => ?_
          simp only [↓bO, go_sem, seval, ActT.cells]
          refine q0 _ ?_
          clear q0 Q0
          simp only [go_sem]
          simp only [↓bO, go_sem, seval, ActT.cells]
          try simp only [maskL, setsL, putsO, putO, mB, List.set_cons_zero, List.set_cons_succ, seval]
          refine Weak.mk ?_ (fun _ _ h => h) rfl rfl
          simp only [go_sem, Le.refl, Le.any]
          all_goals (refine Le.of_eq (congrArg (fun b => AV.v (.bool b)) ?_); (try simp only [strNe] at *); grind [ActT.e1, ActT.e2, namedB])
         ·
          simp only [List.set_cons_zero, List.set_cons_succ]
          iterate 3 (refine aops_chunk 1 fun Q0 q0 => ?_; simp only [↓bO, go_sem, seval, ActT.cells]; refine q0 _ ?_; clear q0 Q0; simp only [go_sem])
          refine aops_chunk 1 fun Q0 q0 => ?_
          simp only [↓bO, go_sem, seval, i2t28, aEq2, eqt28, ActT.cells]
          refine q0 _ ?_
          clear q0 Q0
          simp only [go_sem]
          refine aops_chunk 1 fun Q0 q0 => ?_
          simp only [↓bO, go_sem, seval, ActT.cells]
          refine q0 _ ?_
          clear q0 Q0
          simp only [go_sem]
          simp only [↓bO, go_sem, seval, ActT.cells]
          try simp only [maskL, setsL, putsO, putO, mB, List.set_cons_zero, List.set_cons_succ, seval]
          refine Weak.mk ?_ (fun _ _ h => h) rfl rfl
          simp only [go_sem, Le.refl, Le.any]
          all_goals (refine Le.of_eq (congrArg (fun b => AV.v (.bool b)) ?_); (try simp only [strNe] at *); grind [ActT.e1, ActT.e2, namedB])
    ·
     simp only [List.set_cons_zero, List.set_cons_succ]
     iterate 14 (refine aops_chunk 1 fun Q0 q0 => ?_; simp only [↓bO, go_sem, seval, ActT.cells]; refine q0 _ ?_; clear q0 Q0; simp only [go_sem])
     refine aops_case 56 rfl (fun hc56 => ?_) (fun hc56 => ?_)
     ·
      simp only [List.set_cons_zero, List.set_cons_succ]
      iterate 6 (refine aops_chunk 1 fun Q0 q0 => ?_; simp only [↓bO, go_sem, seval, ActT.cells]; refine q0 _ ?_; clear q0 Q0; simp only [go_sem])
      refine aops_case 62 rfl (fun hc62 => ?_) (fun hc62 => ?_)
      ·
       simp only [List.set_cons_zero, List.set_cons_succ]
       iterate 17 (refine aops_chunk 1 fun Q0 q0 => ?_; simp only [↓bO, go_sem, seval, ActT.cells]; refine q0 _ ?_; clear q0 Q0; simp only [go_sem])
       refine aops_chunk 1 fun Q0 q0 => ?_
       simp only [↓bO, go_sem, seval, i2t28, aEq2, eqt28, ActT.cells]
       refine q0 _ ?_
       clear q0 Q0
       simp only [go_sem]
       refine aops_chunk 1 fun Q0 q0 => ?_
       simp only [↓bO, go_sem, seval, ActT.cells]
       refine q0 _ ?_
       clear q0 Q0
       simp only [go_sem]
       simp only [↓bO, go_sem, seval, ActT.cells]
       try simp only [maskL, setsL, putsO, putO, mB, List.set_cons_zero, List.set_cons_succ, seval]
       refine Weak.mk ?_ (fun _ _ h => h) rfl rfl
       simp only [go_sem, Le.refl, Le.any]
       all_goals (refine Le.of_eq (congrArg (fun b => AV.v (.bool b)) ?_); (try simp only [strNe] at *); grind [ActT.e1, ActT.e2, namedB])
      ·
       simp only [List.set_cons_zero, List.set_cons_succ]
       iterate 4 (refine aops_chunk 1 fun Q0 q0 => ?_; simp only [↓bO, go_sem, seval, ActT.cells]; refine q0 _ ?_; clear q0 Q0; simp only [go_sem])
       refine aops_case 66 rfl (fun hc66 => ?_) (fun hc66 => ?_)
       ·
        simp only [List.set_cons_zero, List.set_cons_succ]
        iterate 6 (refine aops_chunk 1 fun Q0 q0 => ?_; simp only [↓bO, go_sem, seval, ActT.cells]; refine q0 _ ?_; clear q0 Q0; simp only [go_sem])
        refine aops_case 72 rfl (fun hc72 => ?_) (fun hc72 => ?_)
        ·
         simp only [List.set_cons_zero, List.set_cons_succ]
         iterate 7 (refine aops_chunk 1 fun Q0 q0 => ?_; simp only [↓bO, go_sem, seval, ActT.cells]; refine q0 _ ?_; clear q0 Q0; simp only [go_sem])
         refine aops_chunk 1 fun Q0 q0 => ?_
         simp only [↓bO, go_sem, seval, i2t28, aEq2, eqt28, ActT.cells]
         refine q0 _ ?_
         clear q0 Q0
         simp only [go_sem]
         refine aops_chunk 1 fun Q0 q0 => ?_
         simp only [↓bO, go_sem, seval, ActT.cells]
         refine q0 _ ?_
         clear q0 Q0
         simp only [go_sem]
         simp only [↓bO, go_sem, seval, ActT.cells]
         try simp only [maskL, setsL, putsO, putO, mB, List.set_cons_zero, List.set_cons_succ, seval]
         refine Weak.mk ?_ (fun _ _ h => h) rfl rfl
         simp only [go_sem, Le.refl, Le.any]
         all_goals (refine Le.of_eq (congrArg (fun b => AV.v (.bool b)) ?_); (try simp only [strNe] at *); grind [ActT.e1, ActT.e2, namedB])
        ·
         simp only [List.set_cons_zero, List.set_cons_succ]
         iterate 4 (refine aops_chunk 1 fun Q0 q0 => ?_; simp only [↓bO, go_sem, seval, ActT.cells]; refine q0 _ ?_; clear q0 Q0; simp only [go_sem])
         refine aops_case 76 rfl (fun hc76 => ?_) (fun hc76 => ?_)
         ·
          simp only [List.set_cons_zero, List.set_cons_succ]
          iterate 3 (refine aops_chunk 1 fun Q0 q0 => ?_; simp only [↓bO, go_sem, seval, ActT.cells]; refine q0 _ ?_; clear q0 Q0; simp only [go_sem])
          refine aops_chunk 1 fun Q0 q0 => ?_
          simp only [↓bO, go_sem, seval, i2t28, aEq2, eqt28, ActT.cells]
          refine q0 _ ?_
          clear q0 Q0
          simp only [go_sem]
          refine aops_chunk 1 fun Q0 q0 => ?_
          simp only [↓bO, go_sem, seval, ActT.cells]
          refine q0 _ ?_
          clear q0 Q0
          simp only [go_sem]
          simp only [↓bO, go_sem, seval, ActT.cells]
          try simp only [maskL, setsL, putsO, putO, mB, List.set_cons_zero, List.set_cons_succ, seval]
          refine Weak.mk ?_ (fun _ _ h => h) rfl rfl
          simp only [go_sem, Le.refl, Le.any]
          all_goals (refine Le.of_eq (congrArg (fun b => AV.v (.bool b)) ?_); (try simp only [strNe] at *); grind [ActT.e1, ActT.e2, namedB])
         ·
          simp only [List.set_cons_zero, List.set_cons_succ]
          iterate 3 (refine aops_chunk 1 fun Q0 q0 => ?_; simp only [↓bO, go_sem, seval, ActT.cells]; refine q0 _ ?_; clear q0 Q0; simp only [go_sem])
          refine aops_chunk 1 fun Q0 q0 => ?_
          simp only [↓bO, go_sem, seval, i2t28, aEq2, eqt28, ActT.cells]
          refine q0 _ ?_
          clear q0 Q0
          simp only [go_sem]
          refine aops_chunk 1 fun Q0 q0 => ?_
          simp only [↓bO, go_sem, seval, ActT.cells]
          refine q0 _ ?_
          clear q0 Q0
          simp only [go_sem]
          simp only [↓bO, go_sem, seval, ActT.cells]
          try simp only [maskL, setsL, putsO, putO, mB, List.set_cons_zero, List.set_cons_succ, seval]
          refine Weak.mk ?_ (fun _ _ h => h) rfl rfl
          simp only [go_sem, Le.refl, Le.any]
          all_goals (refine Le.of_eq (congrArg (fun b => AV.v (.bool b)) ?_); (try simp only [strNe] at *); grind [ActT.e1, ActT.e2, namedB])
       ·
        simp only [List.set_cons_zero, List.set_cons_succ]
        iterate 10 (refine aops_chunk 1 fun Q0 q0 => ?_; simp only [↓bO, go_sem, seval, ActT.cells]; refine q0 _ ?_; clear q0 Q0; simp only [go_sem])
        refine aops_case 76 rfl (fun hc76 => ?_) (fun hc76 => ?_)
        ·
         simp only [List.set_cons_zero, List.set_cons_succ]
         iterate 3 (refine aops_chunk 1 fun Q0 q0 => ?_; simp only [↓bO, go_sem, seval, ActT.cells]; refine q0 _ ?_; clear q0 Q0; simp only [go_sem])
         refine aops_chunk 1 fun Q0 q0 => ?_
         simp only [↓bO, go_sem, seval, i2t28, aEq2, eqt28, ActT.cells]
         refine q0 _ ?_
         clear q0 Q0
         simp only [go_sem]
         refine aops_chunk 1 fun Q0 q0 => ?_
         simp only [↓bO, go_sem, seval, ActT.cells]
         refine q0 _ ?_
         clear q0 Q0
         simp only [go_sem]
         simp only [↓bO, go_sem, seval, ActT.cells]
         try simp only [maskL, setsL, putsO, putO, mB, List.set_cons_zero, List.set_cons_succ, seval]
         refine Weak.mk ?_ (fun _ _ h => h) rfl rfl
         simp only [go_sem, Le.refl, Le.any]
         all_goals (refine Le.of_eq (congrArg (fun b => AV.v (.bool b)) ?_); (try simp only [strNe] at *); grind [ActT.e1, ActT.e2, namedB])
        ·
         simp only [List.set_cons_zero, List.set_cons_succ]
         iterate 3 (refine aops_chunk 1 fun Q0 q0 => ?_; simp only [↓bO, go_sem, seval, ActT.cells]; refine q0 _ ?_; clear q0 Q0; simp only [go_sem])
         refine aops_chunk 1 fun Q0 q0 => ?_
         simp only [↓bO, go_sem, seval, i2t28, aEq2, eqt28, ActT.cells]
         refine q0 _ ?_
         clear q0 Q0
         simp only [go_sem]
         refine aops_chunk 1 fun Q0 q0 => ?_
         simp only [↓bO, go_sem, seval, ActT.cells]
         refine q0 _ ?_
         clear q0 Q0
         simp only [go_sem]
         simp only [↓bO, go_sem, seval, ActT.cells]
         try simp only [maskL, setsL, putsO, putO, mB, List.set_cons_zero, List.set_cons_succ, seval]
         refine Weak.mk ?_ (fun _ _ h => h) rfl rfl
         simp only [go_sem, Le.refl, Le.any]
         all_goals (refine Le.of_eq (congrArg (fun b => AV.v (.bool b)) ?_); (try simp only [strNe] at *); grind [ActT.e1, ActT.e2, namedB])
     ·
      simp only [List.set_cons_zero, List.set_cons_succ]
      iterate 10 (refine aops_chunk 1 fun Q0 q0 => ?_; simp only [↓bO, go_sem, seval, ActT.cells]; refine q0 _ ?_; clear q0 Q0; simp only [go_sem])
      refine aops_case 66 rfl (fun hc66 => ?_) (fun hc66 => ?_)
      ·
       simp only [List.set_cons_zero, List.set_cons_succ]
       iterate 6 (refine aops_chunk 1 fun Q0 q0 => ?_; simp only [↓bO, go_sem, seval, ActT.cells]; refine q0 _ ?_; clear q0 Q0; simp only [go_sem])
       refine aops_case 72 rfl (fun hc72 => ?_) (fun hc72 => ?_)
       ·
        simp only [List.set_cons_zero, List.set_cons_succ]
        iterate 7 (refine aops_chunk 1 fun Q0 q0 => ?_; simp only [↓bO, go_sem, seval, ActT.cells]; refine q0 _ ?_; clear q0 Q0; simp only [go_sem])
        refine aops_chunk 1 fun Q0 q0 => ?_
        simp only [↓bO, go_sem, seval, i2t28, aEq2, eqt28, ActT.cells]
        refine q0 _ ?_
        clear q0 Q0
        simp only [go_sem]
        refine aops_chunk 1 fun Q0 q0 => ?_
        simp only [↓bO, go_sem, seval, ActT.cells]
        refine q0 _ ?_
        clear q0 Q0
        simp only [go_sem]
        simp only [↓bO, go_sem, seval, ActT.cells]
        try simp only [maskL, setsL, putsO, putO, mB, List.set_cons_zero, List.set_cons_succ, seval]
        refine Weak.mk ?_ (fun _ _ h => h) rfl rfl
        simp only [go_sem, Le.refl, Le.any]
        all_goals (refine Le.of_eq (congrArg (fun b => AV.v (.bool b)) ?_); (try simp only [strNe] at *); grind [ActT.e1, ActT.e2, namedB])
       ·
        simp only [List.set_cons_zero, List.set_cons_succ]
        iterate 4 (refine aops_chunk 1 fun Q0 q0 => ?_; simp only [↓bO, go_sem, seval, ActT.cells]; refine q0 _ ?_; clear q0 Q0; simp only [go_sem])
        refine aops_case 76 rfl (fun hc76 => ?_) (fun hc76 => ?_)
        ·
         simp only [List.set_cons_zero, List.set_cons_succ]
         iterate 3 (refine aops_chunk 1 fun Q0 q0 => ?_; simp only [↓bO, go_sem, seval, ActT.cells]; refine q0 _ ?_; clear q0 Q0; simp only [go_sem])
         refine aops_chunk 1 fun Q0 q0 => ?_
         simp only [↓bO, go_sem, seval, i2t28, aEq2, eqt28, ActT.cells]
         refine q0 _ ?_
         clear q0 Q0
         simp only [go_sem]
         refine aops_chunk 1 fun Q0 q0 => ?_
         simp only [↓bO, go_sem, seval, ActT.cells]
         refine q0 _ ?_
         clear q0 Q0
         simp only [go_sem]
         simp only [↓bO, go_sem, seval, ActT.cells]
         try simp only [maskL, setsL, putsO, putO, mB, List.set_cons_zero, List.set_cons_succ, seval]
         refine Weak.mk ?_ (fun _ _ h => h) rfl rfl
         simp only [go_sem, Le.refl, Le.any]
         all_goals (refine Le.of_eq (congrArg (fun b => AV.v (.bool b)) ?_); (try simp only [strNe] at *); grind [ActT.e1, ActT.e2, namedB])
        ·
         simp only [List.set_cons_zero, List.set_cons_succ]
         iterate 3 (refine aops_chunk 1 fun Q0 q0 => ?_; simp only [↓bO, go_sem, seval, ActT.cells]; refine q0 _ ?_; clear q0 Q0; simp only [go_sem])
         refine aops_chunk 1 fun Q0 q0 => ?_
         simp only [↓bO, go_sem, seval, i2t28, aEq2, eqt28, ActT.cells]
         refine q0 _ ?_
         clear q0 Q0
         simp only [go_sem]
         refine aops_chunk 1 fun Q0 q0 => ?_
         simp only [↓bO, go_sem, seval, ActT.cells]
         refine q0 _ ?_
         clear q0 Q0
         simp only [go_sem]
         simp only [↓bO, go_sem, seval, ActT.cells]
         try simp only [maskL, setsL, putsO, putO, mB, List.set_cons_zero, List.set_cons_succ, seval]
         refine Weak.mk ?_ (fun _ _ h => h) rfl rfl
         simp only [go_sem, Le.refl, Le.any]
         all_goals (refine Le.of_eq (congrArg (fun b => AV.v (.bool b)) ?_); (try simp only [strNe] at *); grind [ActT.e1, ActT.e2, namedB])
      ·
       simp only [List.set_cons_zero, List.set_cons_succ]
       iterate 10 (refine aops_chunk 1 fun Q0 q0 => ?_; simp only [↓bO, go_sem, seval, ActT.cells]; refine q0 _ ?_; clear q0 Q0; simp only [go_sem])
       refine aops_case 76 rfl (fun hc76 => ?_) (fun hc76 => ?_)
       ·
        simp only [List.set_cons_zero, List.set_cons_succ]
        iterate 3 (refine aops_chunk 1 fun Q0 q0 => ?_; simp only [↓bO, go_sem, seval, ActT.cells]; refine q0 _ ?_; clear q0 Q0; simp only [go_sem])
        refine aops_chunk 1 fun Q0 q0 => ?_
        simp only [↓bO, go_sem, seval, i2t28, aEq2, eqt28, ActT.cells]
        refine q0 _ ?_
        clear q0 Q0
        simp only [go_sem]
        refine aops_chunk 1 fun Q0 q0 => ?_
        simp only [↓bO, go_sem, seval, ActT.cells]
        refine q0 _ ?_
        clear q0 Q0
        simp only [go_sem]
        simp only [↓bO, go_sem, seval, ActT.cells]
        try simp only [maskL, setsL, putsO, putO, mB, List.set_cons_zero, List.set_cons_succ, seval]
        refine Weak.mk ?_ (fun _ _ h => h) rfl rfl
        simp only [go_sem, Le.refl, Le.any]
        all_goals (refine Le.of_eq (congrArg (fun b => AV.v (.bool b)) ?_); (try simp only [strNe] at *); grind [ActT.e1, ActT.e2, namedB])
       ·
        simp only [List.set_cons_zero, List.set_cons_succ]
        iterate 3 (refine aops_chunk 1 fun Q0 q0 => ?_; simp only [↓bO, go_sem, seval, ActT.cells]; refine q0 _ ?_; clear q0 Q0; simp only [go_sem])
        refine aops_chunk 1 fun Q0 q0 => ?_
        simp only [↓bO, go_sem, seval, i2t28, aEq2, eqt28, ActT.cells]
        refine q0 _ ?_
        clear q0 Q0
        simp only [go_sem]
        refine aops_chunk 1 fun Q0 q0 => ?_
        simp only [↓bO, go_sem, seval, ActT.cells]
        refine q0 _ ?_
        clear q0 Q0
        simp only [go_sem]
        simp only [↓bO, go_sem, seval, ActT.cells]
        try simp only [maskL, setsL, putsO, putO, mB, List.set_cons_zero, List.set_cons_succ, seval]
        refine Weak.mk ?_ (fun _ _ h => h) rfl rfl
        simp only [go_sem, Le.refl, Le.any]
        all_goals (refine Le.of_eq (congrArg (fun b => AV.v (.bool b)) ?_); (try simp only [strNe] at *); grind [ActT.e1, ActT.e2, namedB])
   simp only [maskL, setsL, putsO, putO, mB, List.set_cons_zero, List.set_cons_succ, seval]
   refine AWp_cond rfl (fun hb82 => ?_) (fun hb82 => ?_)
   ·
    have he2 : decide a.e2 = true := hb82
    refine AWp_seqK fun Y1 y1 => ?_
    refine AWp_region ?_
    refine aops_chunk 1 fun Q0 q0 => ?_
    simp only [↓bO, go_sem, seval, ActT.cells]
    refine q0 _ ?_
    clear q0 Q0
    simp only [go_sem]
    simp only [↓bO, go_sem, seval, ActT.cells]
    refine y1 _ ?_
    try clear y1 Y1
    refine AWp_ret ?_
    try simp only [thenQ, blockQ, noGotoQ, retQ, aRes, tupOf, bS, bA]
    rw [lineA_err (ActT.err2 he2) (by decide)]
    exact Le.refl _
   ·
    have he2 : decide a.e2 = false := hb82
    refine AWp_skip ?_
    try simp only [thenQ, blockQ, noGotoQ]
    refine y0 _ ?_
    try clear y0 Y0
    refine AWp_seqK fun Y0 y0 => ?_
    refine AWp_seqK fun Y1 y1 => ?_
    refine AWp_region ?_
    iterate 3 (refine aops_chunk 1 fun Q0 q0 => ?_; simp only [↓bO, go_sem, seval, ActT.cells]; refine q0 _ ?_; clear q0 Q0; simp only [go_sem])
    simp only [↓bO, go_sem, seval, ActT.cells]
    refine y1 _ ?_
    try clear y1 Y1
    refine AWp_cond rfl (fun hb86 => ?_) (fun hb86 => ?_)
    ·
     have hlong : a.text.size > 4096 := (by have h9 := hb86; simp at h9; omega)
     refine AWp_seqK fun Y1 y1 => ?_
     refine AWp_region ?_
     refine aops_chunk 1 fun Q0 q0 => ?_
     simp only [↓bO, go_sem, seval, ActT.cells]
     refine q0 _ ?_
     clear q0 Q0
     simp only [go_sem]
     simp only [↓bO, go_sem, seval, ActT.cells]
     refine y1 _ ?_
     try clear y1 Y1
     refine AWp_ret ?_
     try simp only [thenQ, blockQ, noGotoQ, retQ, aRes, tupOf, bS, bA]
     rw [lineA_err ((ActT.err3 he1 he2).trans (if_pos hlong)) (by decide)]
     exact Le.refl _
    ·
     have ht : a.text.size ≤ 4096 := (by have h9 := hb86; simp at h9; omega)
     have h0 : a.err = 0 := (ActT.err3 he1 he2).trans (if_neg (by omega))
     have hka := ActT.ok_of h0
     have hn20 := ActT.name20e hka.2.1
     have hkk := kinds hka.1
     have e7 := quS_size a.text
     have e1 := itS_size a.p1 f1.1 f1.2
     have e2 := itS_size a.p2 f2.1 f2.2
     have e3 := itS_size a.n f3.1 f3.2
     have e4 := itS_size a.lb f4.1 f4.2
     have e5 := itS_size a.ld f5.1 f5.2
     have e6 := itS_size a.le f6.1 f6.2
     have hqs : ofL (quL a.text.data.toList) = quS a.text := rfl
     refine AWp_skip ?_
     try simp only [thenQ, blockQ, noGotoQ]
     refine y0 _ ?_
     try clear y0 Y0
     refine AWp_seqK fun Y0 y0 => ?_
     refine AWp_seqK fun Y1 y1 => ?_
     refine AWp_region ?_
     refine aops_chunk 1 fun Q0 q0 => ?_
     simp only [↓bO, go_sem, seval, ActT.cells, hqs]
     refine q0 _ ?_
     clear q0 Q0
     simp only [go_sem]
     simp only [↓bO, go_sem, seval, ActT.cells, hqs]
     refine y1 _ ?_
     try clear y1 Y1
     refine AWp_block ?_
     refine AWp_seqK fun Y1 y1 => ?_
     refine AWp_region ?_
     refine aops_chunk 1 fun Q0 q0 => ?_
     simp only [↓bO, go_sem, seval, ActT.cells, hqs]
     refine q0 _ ?_
     clear q0 Q0
     simp only [go_sem]
     simp only [↓bO, go_sem, seval, ActT.cells, hqs]
     refine y1 _ ?_
     try clear y1 Y1
     refine AWp_cond rfl (fun hb89 => ?_) (fun hb89 => ?_)
     ·
      have hk1 : a.k = 1 := (by have h9 := hb89; simp at h9; omega)
      have hm0 : (((((#[111, 112, 101, 110, 32] : Array UInt8).size + (a.name).size) : Nat) : Int) ≤ IntKind.i64.max) = True := eq_true (by (show ((((#[111, 112, 101, 110, 32] : Array UInt8).size + (a.name).size) : Nat) : Int) ≤ 9223372036854775807); (have g : (#[111, 112, 101, 110, 32] : Array UInt8).size = 5 := rfl); omega)
      have hm1 : ((((((#[111, 112, 101, 110, 32] : Array UInt8).size + (a.name).size) + (#[32] : Array UInt8).size) : Nat) : Int) ≤ IntKind.i64.max) = True := eq_true (by (show (((((#[111, 112, 101, 110, 32] : Array UInt8).size + (a.name).size) + (#[32] : Array UInt8).size) : Nat) : Int) ≤ 9223372036854775807); (have g : (#[111, 112, 101, 110, 32] : Array UInt8).size = 5 := rfl); (have g2 : (#[32] : Array UInt8).size = 1 := rfl); omega)
      have hm2 : (((((((#[111, 112, 101, 110, 32] : Array UInt8).size + (a.name).size) + (#[32] : Array UInt8).size) + (quS a.text).size) : Nat) : Int) ≤ IntKind.i64.max) = True := eq_true (by (show ((((((#[111, 112, 101, 110, 32] : Array UInt8).size + (a.name).size) + (#[32] : Array UInt8).size) + (quS a.text).size) : Nat) : Int) ≤ 9223372036854775807); (have g : (#[111, 112, 101, 110, 32] : Array UInt8).size = 5 := rfl); (have g2 : (#[32] : Array UInt8).size = 1 := rfl); omega)
      refine AWp_seqK fun Y1 y1 => ?_
      refine AWp_drawK 8 mixed (by kernel_rfl) fun J0 j0 => ?_
      iterate 6 (simp only [go_sem]; refine dRun_chunk 1 fun Q0 q0 => ?_; simp only [↓dRun, ↓dOp, ↓bO, go_sem, seval, ActT.cells, hqs, hm0, hm1, hm2]; refine q0 _ ?_; clear q0 Q0)
      simp only [go_sem]
      refine dRun_chunk 1 fun Q0 q0 => ?_
      simp only [↓dRun, ↓dOp, ↓bO, go_sem, seval, ActT.cells, hqs, hm0, hm1, hm2]
      refine ⟨_, RQuote_pure a.text (by omega), ?_⟩
      try simp only [bS, bA, thenQ, blockQ, noGotoQ]
      refine q0 _ ?_
      clear q0 Q0
      simp only [go_sem]
      simp only [↓dRun, ↓dOp, ↓bO, go_sem, seval, ActT.cells, hqs, hm0, hm1, hm2]
      refine j0 _ ?_
      clear j0 J0
      simp only [go_sem]
      refine aops_chunk 1 fun Q0 q0 => ?_
      simp only [↓bO, go_sem, seval, ActT.cells, hqs, hm0, hm1, hm2]
      refine q0 _ ?_
      clear q0 Q0
      simp only [go_sem]
      simp only [↓bO, go_sem, seval, ActT.cells, hqs, hm0, hm1, hm2]
      refine y1 _ ?_
      try clear y1 Y1
      refine AWp_ret ?_
      try simp only [thenQ, blockQ, noGotoQ, retQ, aRes, tupOf, bS, bA]
      rw [lineA_ok h0]
      refine Le.of_eq (congrArg (fun s => AV.tup [.v (.string s), .v (.int .i64 0)]) ?_)
      exact rl1 hk1
     ·
      have hk1 : ¬ a.k = 1 := (by have h9 := hb89; simp at h9; omega)
      refine AWp_seqK fun Y1 y1 => ?_
      refine AWp_region ?_
      refine aops_chunk 1 fun Q0 q0 => ?_
      simp only [↓bO, go_sem, seval, ActT.cells, hqs]
      refine q0 _ ?_
      clear q0 Q0
      simp only [go_sem]
      simp only [↓bO, go_sem, seval, ActT.cells, hqs]
      refine y1 _ ?_
      try clear y1 Y1
      refine AWp_cond rfl (fun hb99 => ?_) (fun hb99 => ?_)
      ·
       have hk2 : a.k = 2 := (by have h9 := hb99; simp at h9; omega)
       have hm0 : (((((#[101, 100, 105, 116, 32] : Array UInt8).size + (a.name).size) : Nat) : Int) ≤ IntKind.i64.max) = True := eq_true (by (show ((((#[101, 100, 105, 116, 32] : Array UInt8).size + (a.name).size) : Nat) : Int) ≤ 9223372036854775807); (have g : (#[101, 100, 105, 116, 32] : Array UInt8).size = 5 := rfl); omega)
       have hm1 : ((((((#[101, 100, 105, 116, 32] : Array UInt8).size + (a.name).size) + (#[32] : Array UInt8).size) : Nat) : Int) ≤ IntKind.i64.max) = True := eq_true (by (show (((((#[101, 100, 105, 116, 32] : Array UInt8).size + (a.name).size) + (#[32] : Array UInt8).size) : Nat) : Int) ≤ 9223372036854775807); (have g : (#[101, 100, 105, 116, 32] : Array UInt8).size = 5 := rfl); (have g2 : (#[32] : Array UInt8).size = 1 := rfl); omega)
       have hm2 : (((((((#[101, 100, 105, 116, 32] : Array UInt8).size + (a.name).size) + (#[32] : Array UInt8).size) + (itS a.p1).size) : Nat) : Int) ≤ IntKind.i64.max) = True := eq_true (by (show ((((((#[101, 100, 105, 116, 32] : Array UInt8).size + (a.name).size) + (#[32] : Array UInt8).size) + (itS a.p1).size) : Nat) : Int) ≤ 9223372036854775807); (have g : (#[101, 100, 105, 116, 32] : Array UInt8).size = 5 := rfl); (have g2 : (#[32] : Array UInt8).size = 1 := rfl); omega)
       have hm3 : ((((((((#[101, 100, 105, 116, 32] : Array UInt8).size + (a.name).size) + (#[32] : Array UInt8).size) + (itS a.p1).size) + (#[32] : Array UInt8).size) : Nat) : Int) ≤ IntKind.i64.max) = True := eq_true (by (show (((((((#[101, 100, 105, 116, 32] : Array UInt8).size + (a.name).size) + (#[32] : Array UInt8).size) + (itS a.p1).size) + (#[32] : Array UInt8).size) : Nat) : Int) ≤ 9223372036854775807); (have g : (#[101, 100, 105, 116, 32] : Array UInt8).size = 5 := rfl); (have g2 : (#[32] : Array UInt8).size = 1 := rfl); omega)
       have hm4 : (((((((((#[101, 100, 105, 116, 32] : Array UInt8).size + (a.name).size) + (#[32] : Array UInt8).size) + (itS a.p1).size) + (#[32] : Array UInt8).size) + (itS a.p2).size) : Nat) : Int) ≤ IntKind.i64.max) = True := eq_true (by (show ((((((((#[101, 100, 105, 116, 32] : Array UInt8).size + (a.name).size) + (#[32] : Array UInt8).size) + (itS a.p1).size) + (#[32] : Array UInt8).size) + (itS a.p2).size) : Nat) : Int) ≤ 9223372036854775807); (have g : (#[101, 100, 105, 116, 32] : Array UInt8).size = 5 := rfl); (have g2 : (#[32] : Array UInt8).size = 1 := rfl); omega)
       have hm5 : ((((((((((#[101, 100, 105, 116, 32] : Array UInt8).size + (a.name).size) + (#[32] : Array UInt8).size) + (itS a.p1).size) + (#[32] : Array UInt8).size) + (itS a.p2).size) + (#[32] : Array UInt8).size) : Nat) : Int) ≤ IntKind.i64.max) = True := eq_true (by (show (((((((((#[101, 100, 105, 116, 32] : Array UInt8).size + (a.name).size) + (#[32] : Array UInt8).size) + (itS a.p1).size) + (#[32] : Array UInt8).size) + (itS a.p2).size) + (#[32] : Array UInt8).size) : Nat) : Int) ≤ 9223372036854775807); (have g : (#[101, 100, 105, 116, 32] : Array UInt8).size = 5 := rfl); (have g2 : (#[32] : Array UInt8).size = 1 := rfl); omega)
       have hm6 : (((((((((((#[101, 100, 105, 116, 32] : Array UInt8).size + (a.name).size) + (#[32] : Array UInt8).size) + (itS a.p1).size) + (#[32] : Array UInt8).size) + (itS a.p2).size) + (#[32] : Array UInt8).size) + (quS a.text).size) : Nat) : Int) ≤ IntKind.i64.max) = True := eq_true (by (show ((((((((((#[101, 100, 105, 116, 32] : Array UInt8).size + (a.name).size) + (#[32] : Array UInt8).size) + (itS a.p1).size) + (#[32] : Array UInt8).size) + (itS a.p2).size) + (#[32] : Array UInt8).size) + (quS a.text).size) : Nat) : Int) ≤ 9223372036854775807); (have g : (#[101, 100, 105, 116, 32] : Array UInt8).size = 5 := rfl); (have g2 : (#[32] : Array UInt8).size = 1 := rfl); omega)
       refine AWp_seqK fun Y1 y1 => ?_
       refine AWp_drawK 18 mixed (by kernel_rfl) fun J0 j0 => ?_
       iterate 6 (simp only [go_sem]; refine dRun_chunk 1 fun Q0 q0 => ?_; simp only [↓dRun, ↓dOp, ↓bO, go_sem, seval, ActT.cells, hqs, hm0, hm1, hm2, hm3, hm4, hm5, hm6]; refine q0 _ ?_; clear q0 Q0)
       simp only [go_sem]
       refine dRun_chunk 1 fun Q0 q0 => ?_
       simp only [↓dRun, ↓dOp, ↓bO, go_sem, seval, ActT.cells, hqs, hm0, hm1, hm2, hm3, hm4, hm5, hm6]
       refine ⟨_, TInt_pure a.p1 f1.1 f1.2, ?_⟩
       try simp only [bS, bA, thenQ, blockQ, noGotoQ]
       iterate 5 (refine q0 _ ?_; clear q0 Q0; simp only [go_sem]; refine dRun_chunk 1 fun Q0 q0 => ?_; simp only [↓dRun, ↓dOp, ↓bO, go_sem, seval, ActT.cells, hqs, hm0, hm1, hm2, hm3, hm4, hm5, hm6])
       refine ⟨_, TInt_pure a.p2 f2.1 f2.2, ?_⟩
       try simp only [bS, bA, thenQ, blockQ, noGotoQ]
       iterate 5 (refine q0 _ ?_; clear q0 Q0; simp only [go_sem]; refine dRun_chunk 1 fun Q0 q0 => ?_; simp only [↓dRun, ↓dOp, ↓bO, go_sem, seval, ActT.cells, hqs, hm0, hm1, hm2, hm3, hm4, hm5, hm6])
       refine ⟨_, RQuote_pure a.text (by omega), ?_⟩
       try simp only [bS, bA, thenQ, blockQ, noGotoQ]
       refine q0 _ ?_
       clear q0 Q0
       simp only [go_sem]
       simp only [↓dRun, ↓dOp, ↓bO, go_sem, seval, ActT.cells, hqs, hm0, hm1, hm2, hm3, hm4, hm5, hm6]
       refine j0 _ ?_
       clear j0 J0
       simp only [go_sem]
       refine aops_chunk 1 fun Q0 q0 => ?_
       simp only [↓bO, go_sem, seval, ActT.cells, hqs, hm0, hm1, hm2, hm3, hm4, hm5, hm6]
       refine q0 _ ?_
       clear q0 Q0
       simp only [go_sem]
       simp only [↓bO, go_sem, seval, ActT.cells, hqs, hm0, hm1, hm2, hm3, hm4, hm5, hm6]
       refine y1 _ ?_
       try clear y1 Y1
       refine AWp_ret ?_
       try simp only [thenQ, blockQ, noGotoQ, retQ, aRes, tupOf, bS, bA]
       rw [lineA_ok h0]
       refine Le.of_eq (congrArg (fun s => AV.tup [.v (.string s), .v (.int .i64 0)]) ?_)
       exact rl2 hk2
      ·
       have hk2 : ¬ a.k = 2 := (by have h9 := hb99; simp at h9; omega)
       refine AWp_seqK fun Y1 y1 => ?_
       refine AWp_region ?_
       refine aops_chunk 1 fun Q0 q0 => ?_
       simp only [↓bO, go_sem, seval, ActT.cells, hqs]
       refine q0 _ ?_
       clear q0 Q0
       simp only [go_sem]
       simp only [↓bO, go_sem, seval, ActT.cells, hqs]
       refine y1 _ ?_
       try clear y1 Y1
       refine AWp_cond rfl (fun hb119 => ?_) (fun hb119 => ?_)
       ·
        have hk3 : a.k = 3 := (by have h9 := hb119; simp at h9; omega)
        have hm0 : (((((#[99, 108, 111, 115, 101, 32] : Array UInt8).size + (a.name).size) : Nat) : Int) ≤ IntKind.i64.max) = True := eq_true (by (show ((((#[99, 108, 111, 115, 101, 32] : Array UInt8).size + (a.name).size) : Nat) : Int) ≤ 9223372036854775807); (have g : (#[99, 108, 111, 115, 101, 32] : Array UInt8).size = 6 := rfl); omega)
        refine AWp_seqK fun Y1 y1 => ?_
        refine AWp_region ?_
        iterate 4 (refine aops_chunk 1 fun Q0 q0 => ?_; simp only [↓bO, go_sem, seval, ActT.cells, hqs, hm0]; refine q0 _ ?_; clear q0 Q0; simp only [go_sem])
        simp only [↓bO, go_sem, seval, ActT.cells, hqs, hm0]
        refine y1 _ ?_
        try clear y1 Y1
        refine AWp_ret ?_
        try simp only [thenQ, blockQ, noGotoQ, retQ, aRes, tupOf, bS, bA]
        rw [lineA_ok h0]
        refine Le.of_eq (congrArg (fun s => AV.tup [.v (.string s), .v (.int .i64 0)]) ?_)
        exact rl3 hk3
       ·
        have hk3 : ¬ a.k = 3 := (by have h9 := hb119; simp at h9; omega)
        refine AWp_seqK fun Y1 y1 => ?_
        refine AWp_region ?_
        refine aops_chunk 1 fun Q0 q0 => ?_
        simp only [↓bO, go_sem, seval, ActT.cells, hqs]
        refine q0 _ ?_
        clear q0 Q0
        simp only [go_sem]
        simp only [↓bO, go_sem, seval, ActT.cells, hqs]
        refine y1 _ ?_
        try clear y1 Y1
        refine AWp_cond rfl (fun hb124 => ?_) (fun hb124 => ?_)
        ·
         have hk4 : a.k = 4 := (by have h9 := hb124; simp at h9; omega)
         have hm0 : (((((#[99, 104, 101, 99, 107, 32] : Array UInt8).size + (a.name).size) : Nat) : Int) ≤ IntKind.i64.max) = True := eq_true (by (show ((((#[99, 104, 101, 99, 107, 32] : Array UInt8).size + (a.name).size) : Nat) : Int) ≤ 9223372036854775807); (have g : (#[99, 104, 101, 99, 107, 32] : Array UInt8).size = 6 := rfl); omega)
         refine AWp_seqK fun Y1 y1 => ?_
         refine AWp_region ?_
         iterate 4 (refine aops_chunk 1 fun Q0 q0 => ?_; simp only [↓bO, go_sem, seval, ActT.cells, hqs, hm0]; refine q0 _ ?_; clear q0 Q0; simp only [go_sem])
         simp only [↓bO, go_sem, seval, ActT.cells, hqs, hm0]
         refine y1 _ ?_
         try clear y1 Y1
         refine AWp_ret ?_
         try simp only [thenQ, blockQ, noGotoQ, retQ, aRes, tupOf, bS, bA]
         rw [lineA_ok h0]
         refine Le.of_eq (congrArg (fun s => AV.tup [.v (.string s), .v (.int .i64 0)]) ?_)
         exact rl4 hk4
        ·
         have hk4 : ¬ a.k = 4 := (by have h9 := hb124; simp at h9; omega)
         refine AWp_seqK fun Y1 y1 => ?_
         refine AWp_region ?_
         refine aops_chunk 1 fun Q0 q0 => ?_
         simp only [↓bO, go_sem, seval, ActT.cells, hqs]
         refine q0 _ ?_
         clear q0 Q0
         simp only [go_sem]
         simp only [↓bO, go_sem, seval, ActT.cells, hqs]
         refine y1 _ ?_
         try clear y1 Y1
         refine AWp_cond rfl (fun hb129 => ?_) (fun hb129 => ?_)
         ·
          have hk5 : a.k = 5 := (by have h9 := hb129; simp at h9; omega)
          have hm0 : (((((#[114, 117, 110, 32] : Array UInt8).size + (a.name).size) : Nat) : Int) ≤ IntKind.i64.max) = True := eq_true (by (show ((((#[114, 117, 110, 32] : Array UInt8).size + (a.name).size) : Nat) : Int) ≤ 9223372036854775807); (have g : (#[114, 117, 110, 32] : Array UInt8).size = 4 := rfl); omega)
          have hm1 : ((((((#[114, 117, 110, 32] : Array UInt8).size + (a.name).size) + (#[32] : Array UInt8).size) : Nat) : Int) ≤ IntKind.i64.max) = True := eq_true (by (show (((((#[114, 117, 110, 32] : Array UInt8).size + (a.name).size) + (#[32] : Array UInt8).size) : Nat) : Int) ≤ 9223372036854775807); (have g : (#[114, 117, 110, 32] : Array UInt8).size = 4 := rfl); (have g2 : (#[32] : Array UInt8).size = 1 := rfl); omega)
          have hm2 : (((((((#[114, 117, 110, 32] : Array UInt8).size + (a.name).size) + (#[32] : Array UInt8).size) + (itS a.n).size) : Nat) : Int) ≤ IntKind.i64.max) = True := eq_true (by (show ((((((#[114, 117, 110, 32] : Array UInt8).size + (a.name).size) + (#[32] : Array UInt8).size) + (itS a.n).size) : Nat) : Int) ≤ 9223372036854775807); (have g : (#[114, 117, 110, 32] : Array UInt8).size = 4 := rfl); (have g2 : (#[32] : Array UInt8).size = 1 := rfl); omega)
          refine AWp_seqK fun Y1 y1 => ?_
          refine AWp_drawK 8 mixed (by kernel_rfl) fun J0 j0 => ?_
          iterate 6 (simp only [go_sem]; refine dRun_chunk 1 fun Q0 q0 => ?_; simp only [↓dRun, ↓dOp, ↓bO, go_sem, seval, ActT.cells, hqs, hm0, hm1, hm2]; refine q0 _ ?_; clear q0 Q0)
          simp only [go_sem]
          refine dRun_chunk 1 fun Q0 q0 => ?_
          simp only [↓dRun, ↓dOp, ↓bO, go_sem, seval, ActT.cells, hqs, hm0, hm1, hm2]
          refine ⟨_, TInt_pure a.n f3.1 f3.2, ?_⟩
          try simp only [bS, bA, thenQ, blockQ, noGotoQ]
          refine q0 _ ?_
          clear q0 Q0
          simp only [go_sem]
          simp only [↓dRun, ↓dOp, ↓bO, go_sem, seval, ActT.cells, hqs, hm0, hm1, hm2]
          refine j0 _ ?_
          clear j0 J0
          simp only [go_sem]
          refine aops_chunk 1 fun Q0 q0 => ?_
          simp only [↓bO, go_sem, seval, ActT.cells, hqs, hm0, hm1, hm2]
          refine q0 _ ?_
          clear q0 Q0
          simp only [go_sem]
          simp only [↓bO, go_sem, seval, ActT.cells, hqs, hm0, hm1, hm2]
          refine y1 _ ?_
          try clear y1 Y1
          refine AWp_ret ?_
          try simp only [thenQ, blockQ, noGotoQ, retQ, aRes, tupOf, bS, bA]
          rw [lineA_ok h0]
          refine Le.of_eq (congrArg (fun s => AV.tup [.v (.string s), .v (.int .i64 0)]) ?_)
          exact rl5 hk5
         ·
          have hk5 : ¬ a.k = 5 := (by have h9 := hb129; simp at h9; omega)
          refine AWp_seqK fun Y1 y1 => ?_
          refine AWp_region ?_
          refine aops_chunk 1 fun Q0 q0 => ?_
          simp only [↓bO, go_sem, seval, ActT.cells, hqs]
          refine q0 _ ?_
          clear q0 Q0
          simp only [go_sem]
          simp only [↓bO, go_sem, seval, ActT.cells, hqs]
          refine y1 _ ?_
          try clear y1 Y1
          refine AWp_cond rfl (fun hb139 => ?_) (fun hb139 => ?_)
          ·
           have hk6 : a.k = 6 := (by have h9 := hb139; simp at h9; omega)
           have hm0 : (((((#[108, 105, 109, 105, 116, 32] : Array UInt8).size + (itS a.lb).size) : Nat) : Int) ≤ IntKind.i64.max) = True := eq_true (by (show ((((#[108, 105, 109, 105, 116, 32] : Array UInt8).size + (itS a.lb).size) : Nat) : Int) ≤ 9223372036854775807); (have g : (#[108, 105, 109, 105, 116, 32] : Array UInt8).size = 6 := rfl); omega)
           have hm1 : ((((((#[108, 105, 109, 105, 116, 32] : Array UInt8).size + (itS a.lb).size) + (#[32] : Array UInt8).size) : Nat) : Int) ≤ IntKind.i64.max) = True := eq_true (by (show (((((#[108, 105, 109, 105, 116, 32] : Array UInt8).size + (itS a.lb).size) + (#[32] : Array UInt8).size) : Nat) : Int) ≤ 9223372036854775807); (have g : (#[108, 105, 109, 105, 116, 32] : Array UInt8).size = 6 := rfl); (have g2 : (#[32] : Array UInt8).size = 1 := rfl); omega)
           have hm2 : (((((((#[108, 105, 109, 105, 116, 32] : Array UInt8).size + (itS a.lb).size) + (#[32] : Array UInt8).size) + (itS a.ld).size) : Nat) : Int) ≤ IntKind.i64.max) = True := eq_true (by (show ((((((#[108, 105, 109, 105, 116, 32] : Array UInt8).size + (itS a.lb).size) + (#[32] : Array UInt8).size) + (itS a.ld).size) : Nat) : Int) ≤ 9223372036854775807); (have g : (#[108, 105, 109, 105, 116, 32] : Array UInt8).size = 6 := rfl); (have g2 : (#[32] : Array UInt8).size = 1 := rfl); omega)
           have hm3 : ((((((((#[108, 105, 109, 105, 116, 32] : Array UInt8).size + (itS a.lb).size) + (#[32] : Array UInt8).size) + (itS a.ld).size) + (#[32] : Array UInt8).size) : Nat) : Int) ≤ IntKind.i64.max) = True := eq_true (by (show (((((((#[108, 105, 109, 105, 116, 32] : Array UInt8).size + (itS a.lb).size) + (#[32] : Array UInt8).size) + (itS a.ld).size) + (#[32] : Array UInt8).size) : Nat) : Int) ≤ 9223372036854775807); (have g : (#[108, 105, 109, 105, 116, 32] : Array UInt8).size = 6 := rfl); (have g2 : (#[32] : Array UInt8).size = 1 := rfl); omega)
           have hm4 : (((((((((#[108, 105, 109, 105, 116, 32] : Array UInt8).size + (itS a.lb).size) + (#[32] : Array UInt8).size) + (itS a.ld).size) + (#[32] : Array UInt8).size) + (itS a.le).size) : Nat) : Int) ≤ IntKind.i64.max) = True := eq_true (by (show ((((((((#[108, 105, 109, 105, 116, 32] : Array UInt8).size + (itS a.lb).size) + (#[32] : Array UInt8).size) + (itS a.ld).size) + (#[32] : Array UInt8).size) + (itS a.le).size) : Nat) : Int) ≤ 9223372036854775807); (have g : (#[108, 105, 109, 105, 116, 32] : Array UInt8).size = 6 := rfl); (have g2 : (#[32] : Array UInt8).size = 1 := rfl); omega)
           refine AWp_seqK fun Y1 y1 => ?_
           refine AWp_drawK 17 mixed (by kernel_rfl) fun J0 j0 => ?_
           iterate 3 (simp only [go_sem]; refine dRun_chunk 1 fun Q0 q0 => ?_; simp only [↓dRun, ↓dOp, ↓bO, go_sem, seval, ActT.cells, hqs, hm0, hm1, hm2, hm3, hm4]; refine q0 _ ?_; clear q0 Q0)
           simp only [go_sem]
           refine dRun_chunk 1 fun Q0 q0 => ?_
           simp only [↓dRun, ↓dOp, ↓bO, go_sem, seval, ActT.cells, hqs, hm0, hm1, hm2, hm3, hm4]
           refine ⟨_, TInt_pure a.lb f4.1 f4.2, ?_⟩
           try simp only [bS, bA, thenQ, blockQ, noGotoQ]
           iterate 6 (refine q0 _ ?_; clear q0 Q0; simp only [go_sem]; refine dRun_chunk 1 fun Q0 q0 => ?_; simp only [↓dRun, ↓dOp, ↓bO, go_sem, seval, ActT.cells, hqs, hm0, hm1, hm2, hm3, hm4])
           refine ⟨_, TInt_pure a.ld f5.1 f5.2, ?_⟩
           try simp only [bS, bA, thenQ, blockQ, noGotoQ]
           iterate 6 (refine q0 _ ?_; clear q0 Q0; simp only [go_sem]; refine dRun_chunk 1 fun Q0 q0 => ?_; simp only [↓dRun, ↓dOp, ↓bO, go_sem, seval, ActT.cells, hqs, hm0, hm1, hm2, hm3, hm4])
           refine ⟨_, TInt_pure a.le f6.1 f6.2, ?_⟩
           try simp only [bS, bA, thenQ, blockQ, noGotoQ]
           refine q0 _ ?_
           clear q0 Q0
           simp only [go_sem]
           simp only [↓dRun, ↓dOp, ↓bO, go_sem, seval, ActT.cells, hqs, hm0, hm1, hm2, hm3, hm4]
           refine j0 _ ?_
           clear j0 J0
           simp only [go_sem]
           refine aops_chunk 1 fun Q0 q0 => ?_
           simp only [↓bO, go_sem, seval, ActT.cells, hqs, hm0, hm1, hm2, hm3, hm4]
           refine q0 _ ?_
           clear q0 Q0
           simp only [go_sem]
           simp only [↓bO, go_sem, seval, ActT.cells, hqs, hm0, hm1, hm2, hm3, hm4]
           refine y1 _ ?_
           try clear y1 Y1
           refine AWp_ret ?_
           try simp only [thenQ, blockQ, noGotoQ, retQ, aRes, tupOf, bS, bA]
           rw [lineA_ok h0]
           refine Le.of_eq (congrArg (fun s => AV.tup [.v (.string s), .v (.int .i64 0)]) ?_)
           exact rl6 hk6
          ·
           have hk6 : ¬ a.k = 6 := (by have h9 := hb139; simp at h9; omega)
           refine AWp_skip ?_
           try simp only [thenQ, blockQ, noGotoQ]
           refine y0 _ ?_
           try clear y0 Y0
           refine AWp_seqK fun Y0 y0 => ?_
           refine AWp_region ?_
           refine aops_chunk 1 fun Q0 q0 => ?_
           simp only [↓bO, go_sem, seval, ActT.cells, hqs]
           refine q0 _ ?_
           clear q0 Q0
           simp only [go_sem]
           simp only [↓bO, go_sem, seval, ActT.cells, hqs]
           refine y0 _ ?_
           try clear y0 Y0
           refine AWp_ret ?_
           try simp only [thenQ, blockQ, noGotoQ, retQ, aRes, tupOf, bS, bA]
           rw [lineA_ok h0]
           refine Le.of_eq (congrArg (fun s => AV.tup [.v (.string s), .v (.int .i64 0)]) ?_)
           exact rl7 (by omega)
end Go.Proofs.YtmepcmphcghbeaaDoor
namespace Go.Proofs.YtmepcmphcghbeaaDoor
open Go Go.Shelf
def Tryd.laysC172_ren : Go.Shelf.Ren := ⟨fun | 172 => 56 | 244 => 64 | 245 => 65 | 247 => 76 | 279 => 77 | 280 => 78 | 281 => 79 | 282 => 80 | 287 => 88 | 316 => 89 | 171 => 34 | 205 => 90 | 321 => 95 | 322 => 96 | 243 => 48 | 246 => 61 | 283 => 72 | 284 => 73 | 285 => 74 | 286 => 75 | 129 => 84 | 317 => 83 | 318 => 85 | 319 => 86 | 320 => 87 | 337 => 93 | 338 => 94 | n => n, fun | 9 => 9 | 3 => 3 | 75 => 77 | 76 => 78 | 4 => 4 | 5 => 5 | 167 => 106 | 37 => 50 | 0 => 0 | 85 => 107 | 2 => 2 | 168 => 109 | 53 => 85 | 175 => 124 | 46 => 52 | 210 => 127 | 127 => 89 | 145 => 144 | 143 => 142 | 21 => 21 | 171 => 101 | 173 => 104 | 212 => 121 | 51 => 112 | 20 => 20 | 213 => 122 | 232 => 147 | 233 => 148 | 80 => 60 | n => n, fun | 15 => 5 | 16 => 6 | 17 => 4 | 18 => 7 | 19 => 8 | n => n⟩
theorem Tryd.laysC172 : Go.Proofs.LaysC.n172 Tryd.prog Tryd.laysC172_ren := {
  mixed := by kernel_rfl
  f129 := Tryd.func84.trans (congrArg some (by kernel_rfl))
  f171 := Tryd.func34.trans (congrArg some (by kernel_rfl))
  f172 := Tryd.func56.trans (congrArg some (by kernel_rfl))
  f205 := Tryd.func90.trans (congrArg some (by kernel_rfl))
  f243 := Tryd.func48.trans (congrArg some (by kernel_rfl))
  f244 := Tryd.func64.trans (congrArg some (by kernel_rfl))
  f245 := Tryd.func65.trans (congrArg some (by kernel_rfl))
  f246 := Tryd.func61.trans (congrArg some (by kernel_rfl))
  f247 := Tryd.func76.trans (congrArg some (by kernel_rfl))
  f279 := Tryd.func77.trans (congrArg some (by kernel_rfl))
  f280 := Tryd.func78.trans (congrArg some (by kernel_rfl))
  f281 := Tryd.func79.trans (congrArg some (by kernel_rfl))
  f282 := Tryd.func80.trans (congrArg some (by kernel_rfl))
  f283 := Tryd.func72.trans (congrArg some (by kernel_rfl))
  f284 := Tryd.func73.trans (congrArg some (by kernel_rfl))
  f285 := Tryd.func74.trans (congrArg some (by kernel_rfl))
  f286 := Tryd.func75.trans (congrArg some (by kernel_rfl))
  f287 := Tryd.func88.trans (congrArg some (by kernel_rfl))
  f316 := Tryd.func89.trans (congrArg some (by kernel_rfl))
  f317 := Tryd.func83.trans (congrArg some (by kernel_rfl))
  f318 := Tryd.func85.trans (congrArg some (by kernel_rfl))
  f319 := Tryd.func86.trans (congrArg some (by kernel_rfl))
  f320 := Tryd.func87.trans (congrArg some (by kernel_rfl))
  f321 := Tryd.func95.trans (congrArg some (by kernel_rfl))
  f322 := Tryd.func96.trans (congrArg some (by kernel_rfl))
  f337 := Tryd.func93.trans (congrArg some (by kernel_rfl))
  f338 := Tryd.func94.trans (congrArg some (by kernel_rfl))
  t0 := Tryd.underlying0
  a0 := Tryd.isAgg0
  z0 := Tryd.sizeOf0
  v0 := Tryd.zeroValue0
  t2 := Tryd.underlying2
  a2 := Tryd.isAgg2
  z2 := Tryd.sizeOf2
  v2 := Tryd.zeroValue2
  t3 := Tryd.underlying3
  a3 := Tryd.isAgg3
  z3 := Tryd.sizeOf3
  v3 := Tryd.zeroValue3
  t4 := Tryd.underlying4
  a4 := Tryd.isAgg4
  z4 := Tryd.sizeOf4
  v4 := Tryd.zeroValue4
  t5 := Tryd.underlying5
  a5 := Tryd.isAgg5
  z5 := Tryd.sizeOf5
  v5 := Tryd.zeroValue5
  t9 := Tryd.underlying9
  a9 := Tryd.isAgg9
  z9 := Tryd.sizeOf9
  v9 := Tryd.zeroValue9
  t20 := Tryd.underlying20
  a20 := Tryd.isAgg20
  z20 := Tryd.sizeOf20
  v20 := Tryd.zeroValue20
  t21 := Tryd.underlying21
  a21 := Tryd.isAgg21
  z21 := Tryd.sizeOf21
  v21 := Tryd.zeroValue21
  t37 := Tryd.underlying50
  a37 := Tryd.isAgg50
  z37 := Tryd.sizeOf50
  v37 := Tryd.zeroValue50
  t46 := Tryd.underlying52
  a46 := Tryd.isAgg52
  z46 := Tryd.sizeOf52
  v46 := Tryd.zeroValue52
  t51 := Tryd.underlying112
  a51 := Tryd.isAgg112
  z51 := Tryd.sizeOf112
  v51 := Tryd.zeroValue112
  t53 := Tryd.underlying85
  a53 := Tryd.isAgg85
  z53 := Tryd.sizeOf85
  v53 := Tryd.zeroValue85
  t75 := Tryd.underlying77
  a75 := Tryd.isAgg77
  z75 := Tryd.sizeOf77
  v75 := Tryd.zeroValue77
  t76 := Tryd.underlying78
  a76 := Tryd.isAgg78
  z76 := Tryd.sizeOf78
  v76 := Tryd.zeroValue78
  t85 := Tryd.underlying107
  a85 := Tryd.isAgg107
  z85 := Tryd.sizeOf107
  v85 := Tryd.zeroValue107
  t127 := Tryd.underlying89
  a127 := Tryd.isAgg89
  z127 := Tryd.sizeOf89
  v127 := Tryd.zeroValue89
  t143 := Tryd.underlying142
  a143 := Tryd.isAgg142
  z143 := Tryd.sizeOf142
  v143 := Tryd.zeroValue142
  t145 := Tryd.underlying144
  a145 := Tryd.isAgg144
  z145 := Tryd.sizeOf144
  v145 := Tryd.zeroValue144
  t167 := Tryd.underlying106
  a167 := Tryd.isAgg106
  z167 := Tryd.sizeOf106
  v167 := Tryd.zeroValue106
  t168 := Tryd.underlying109
  a168 := Tryd.isAgg109
  z168 := Tryd.sizeOf109
  v168 := Tryd.zeroValue109
  t171 := Tryd.underlying101
  a171 := Tryd.isAgg101
  z171 := Tryd.sizeOf101
  v171 := Tryd.zeroValue101
  t173 := Tryd.underlying104
  a173 := Tryd.isAgg104
  z173 := Tryd.sizeOf104
  v173 := Tryd.zeroValue104
  t175 := Tryd.underlying124
  a175 := Tryd.isAgg124
  z175 := Tryd.sizeOf124
  v175 := Tryd.zeroValue124
  t210 := Tryd.underlying127
  a210 := Tryd.isAgg127
  z210 := Tryd.sizeOf127
  v210 := Tryd.zeroValue127
  t212 := Tryd.underlying121
  a212 := Tryd.isAgg121
  z212 := Tryd.sizeOf121
  v212 := Tryd.zeroValue121
  t213 := Tryd.underlying122
  a213 := Tryd.isAgg122
  z213 := Tryd.sizeOf122
  t232 := Tryd.underlying147
  a232 := Tryd.isAgg147
  z232 := Tryd.sizeOf147
  v232 := Tryd.zeroValue147
  t233 := Tryd.underlying148
  a233 := Tryd.isAgg148
  z233 := Tryd.sizeOf148
  v233 := Tryd.zeroValue148
  g15 := by kernel_rfl
  g16 := by kernel_rfl
  g17 := by kernel_rfl
  g18 := by kernel_rfl
  g19 := by kernel_rfl
  t80 := Tryd.underlying60
  a80 := Tryd.isAgg60
  z80 := Tryd.sizeOf60
  v80 := Tryd.zeroValue60
  i0 := by kernel_rfl
  i2 := by kernel_rfl
  i3 := by kernel_rfl
  i4 := by kernel_rfl
  i5 := by kernel_rfl
  i9 := by kernel_rfl
  i20 := by kernel_rfl
  i21 := by kernel_rfl
  i37 := by kernel_rfl
  i46 := by kernel_rfl
  i51 := by kernel_rfl
  i53 := by kernel_rfl
  i75 := by kernel_rfl
  i76 := by kernel_rfl
  i80 := by kernel_rfl
  i85 := by kernel_rfl
  i127 := by kernel_rfl
  i143 := by kernel_rfl
  i145 := by kernel_rfl
  i167 := by kernel_rfl
  i168 := by kernel_rfl
  i171 := by kernel_rfl
  i173 := by kernel_rfl
  i175 := by kernel_rfl
  i210 := by kernel_rfl
  i212 := by kernel_rfl
  i232 := by kernel_rfl
  i233 := by kernel_rfl
  m15 := by kernel_rfl
  m16 := by kernel_rfl
  m17 := by kernel_rfl
  m18 := by kernel_rfl
  m19 := by kernel_rfl
  c0 := by kernel_rfl
  c2 := by kernel_rfl
  c3 := by kernel_rfl
  c4 := by kernel_rfl
  c5 := by kernel_rfl
  c9 := by kernel_rfl
  c20 := by kernel_rfl
  c21 := by kernel_rfl
  c37 := by kernel_rfl
  c46 := by kernel_rfl
  c51 := by kernel_rfl
  c53 := by kernel_rfl
  c75 := by kernel_rfl
  c76 := by kernel_rfl
  c80 := by kernel_rfl
  c85 := by kernel_rfl
  c127 := by kernel_rfl
  c143 := by kernel_rfl
  c145 := by kernel_rfl
  c167 := by kernel_rfl
  c168 := by kernel_rfl
  c171 := by kernel_rfl
  c173 := by kernel_rfl
  c175 := by kernel_rfl
  c210 := by kernel_rfl
  c212 := by kernel_rfl
  c213 := by kernel_rfl
  c232 := by kernel_rfl
  c233 := by kernel_rfl }
open Go.RowKit in
theorem Tryd.strconv_Atoi_ok (s : ByteArray) (hmax : s.size ≤ 9223372036854775806) (v : Int) (h : Lib.atoiAll s.data.toList = .ok v) (w : World) :
    Calls Tryd.prog 56 #[.string s] w fun e w' => e = .returned (.tuple #[.int .i64 v, .nilIface]) ∧ (w' = w ∨ ∃ t, w' = Lib.bytesWorld w 5 t) := Any.strconv_Atoi_ok Tryd.laysC172 s hmax v h w
open Go.RowKit in
theorem Tryd.strconv_Atoi_syntax_var (s : ByteArray) (hlim : s.size ≤ 281474976710656) (h : Lib.atoiAll s.data.toList = .«syntax») (tp : TypeId) (p : Value) (w : World) (hvar : w.var? Tryd.prog "strconv.ErrSyntax" = some #[.iface tp p]) :
    Calls Tryd.prog 56 #[.string s] w fun e w' => ∃ N, e = .returned (.tuple #[.int .i64 0, .iface 109 (.pointer (some ⟨N, 0, none⟩))]) ∧ w.heap.size ≤ N ∧ w'.heap[N]? = some (.cells #[.string ⟨#[65, 116, 111, 105]⟩, .string s, .iface tp p] 127 (0, 0)) ∧ Below w.heap.size w w' := Any.strconv_Atoi_syntax_var Tryd.laysC172 s hlim h tp p w hvar
open Go.RowKit in
theorem Tryd.strconv_Atoi_range_var (s : ByteArray) (hlim : s.size ≤ 281474976710656) (h : Lib.atoiAll s.data.toList = .range) (tp : TypeId) (p : Value) (w : World) (hvar : w.var? Tryd.prog "strconv.ErrRange" = some #[.iface tp p]) :
    Calls Tryd.prog 56 #[.string s] w fun e w' => ∃ N, e = .returned (.tuple #[.int .i64 (Lib.atoiSat s.data.toList), .iface 109 (.pointer (some ⟨N, 0, none⟩))]) ∧ w.heap.size ≤ N ∧ w'.heap[N]? = some (.cells #[.string ⟨#[65, 116, 111, 105]⟩, .string s, .iface tp p] 127 (0, 0)) ∧ Below w.heap.size w w' := Any.strconv_Atoi_range_var Tryd.laysC172 s hlim h tp p w hvar
end Go.Proofs.YtmepcmphcghbeaaDoor
namespace Go.Proofs.YtmepcmphcghbeaaDoor
open Go Go.RowKit
set_option maxRecDepth 100000
set_option maxHeartbeats 4000000
set_option linter.unusedSimpArgs false
set_option linter.unnecessarySimpa false
set_option linter.unusedVariables false
attribute [local irreducible] aops dRun
theorem ACalls.ofCallsE {P : Program} {f : Nat} {args : List AV} {S : AV → Prop} (hb : HasBody P f)
    (h : ∀ (E : Env) (A : Nat → Nat → Prop) (w : World) (vs : Array Value), Gl A w → (∀ b o, A b o → b < w.heap.size) → RpL E A w args vs → Calls P f vs w fun e w' => ∃ x v, S x ∧ e = .returned v ∧ Below w.heap.size w w' ∧ Rp E A w' x v)
    {os : Os} {nx : Nat} {Q : AV → Os → Nat → Prop} (hq : ∀ x, S x → Q x os nx) : ACalls P f args os nx Q := by
  refine ⟨hb, fun A0 E w vs hos hnx hr => (h E (AvX A0 E os) w vs hos.gl (fun b o ha => hos.lt ha) hr).mono ?_⟩
  rintro e w' ⟨x, v, hs, rfl, hbl, hrv⟩
  exact ⟨x, v, os, nx, E, rfl, hq x hs, hrv, hos.keep hbl, hnx, .refl E, .of_below hbl, fun b o ha => .inl ha⟩
theorem rp_two {E : Env} {A : Nat → Nat → Prop} {w : World} (a b : Value) : Rp E A w (.tup [.v a, .v b]) (.tuple #[a, b]) := by
  refine .tup rfl fun i c u hc hu => ?_
  match i, hc, hu with
  | 0, hc, hu => cases hc; cases hu; exact .v _
  | 1, hc, hu => cases hc; cases hu; exact .v _
theorem TAtoi_ok (s : ByteArray) (hs : s.size ≤ 1048576) (h : atOk (tb s) = true) : APure Tryd.prog 56 [.v (.string s)] (.tup [.v (.int .i64 (atV (tb s))), .v .nilIface]) := by
  refine APure.ofCalls ⟨_, Tryd.func56, by kernel_rfl, by kernel_rfl⟩ (.cons (.v _) .nil) (.tup (.cons (.v _) (.cons (.v _) .nil))) fun E A w vs hgl hA hr => ?_
  obtain ⟨u, rfl, h1⟩ := hr.one
  cases h1
  obtain ⟨v, hv⟩ : ∃ v, Lib.atoiAll (tb s) = .ok v := by
    unfold atOk at h
    split at h
    · exact ⟨_, by assumption⟩
    · cases h
  have hv2 : atV (tb s) = v := by unfold atV; rw [hv]
  rw [hv2]
  refine (Tryd.strconv_Atoi_ok s (by omega) v hv w).mono ?_
  rintro e w' ⟨rfl, hw⟩
  refine ⟨_, rfl, ?_, rp_two _ _⟩
  rcases hw with rfl | ⟨t, rfl⟩
  · exact Below.refl _ _
  · exact Lib.bytesWorld_below w _ _
theorem TAtoi_no (s : ByteArray) (hs : s.size ≤ 1048576) (h : atOk (tb s) = false) {os : Os} {nx : Nat} {Q : AV → Os → Nat → Prop} (hq : ∀ (t : TypeId) (p : Value), Q (.tup [.v (.int .i64 (atV (tb s))), .v (.iface t p)]) os nx) :
    ACalls Tryd.prog 56 [.v (.string s)] os nx Q := by
  refine ACalls.ofCallsE (S := fun x => ∃ (t : TypeId) (p : Value), x = .tup [.v (.int .i64 (atV (tb s))), .v (.iface t p)]) ⟨_, Tryd.func56, by kernel_rfl, by kernel_rfl⟩ (fun E A w vs hgl hA hr => ?_) ?_
  · obtain ⟨u, rfl, h1⟩ := hr.one
    cases h1
    obtain ⟨ts, ps, hvs⟩ := hgl.err ge_mem5 (name := "strconv.ErrSyntax") (P := Tryd.prog) (by kernel_rfl)
    obtain ⟨tr, pr, hvr⟩ := hgl.err ge_mem6 (name := "strconv.ErrRange") (P := Tryd.prog) (by kernel_rfl)
    cases hc : Lib.atoiAll (tb s) with
    | ok v => unfold atOk at h; rw [hc] at h; cases h
    | «syntax» =>
      have hv2 : atV (tb s) = 0 := by unfold atV; rw [hc]
      rw [hv2]
      refine (Tryd.strconv_Atoi_syntax_var s (by omega) hc ts ps w hvs).mono ?_
      rintro e w' ⟨N, rfl, _, _, hb⟩
      exact ⟨_, _, ⟨_, _, rfl⟩, rfl, hb, rp_two _ _⟩
    | range =>
      have hv2 : atV (tb s) = Lib.atoiSat (tb s) := by unfold atV; rw [hc]
      rw [hv2]
      refine (Tryd.strconv_Atoi_range_var s (by omega) hc tr pr w hvr).mono ?_
      rintro e w' ⟨N, rfl, _, _, hb⟩
      exact ⟨_, _, ⟨_, _, rfl⟩, rfl, hb, rp_two _ _⟩
  · rintro x ⟨t, p, rfl⟩; exact hq t p
theorem cut_size (s : ByteArray) : (cutW s).size ≤ s.size ∧ (cutR s).size ≤ s.size := by
  have hl := tb_len s
  unfold cutW cutR
  rw [ofL_size, ofL_size]
  rcases cut1_or 32 (tb s) with h | ⟨x, r, h1, h⟩
  · rw [cut1_no h]; simp; omega
  · rw [h1] at hl ⊢
    rw [cut1_at h]
    simp at hl ⊢; omega
def rC (p : PSt) : List AV := .v (.string p.rest) :: .v (.bool p.bad) :: p.act.cells
theorem rC_mk (s : ByteArray) (b : Bool) (a : ActT) : rC ⟨s, b, a⟩ = .v (.string s) :: .v (.bool b) :: a.cells := rfl
def RCalls (f : Nat) (args : List AV) (p : PSt) (R : AV) (p' : PSt) : Prop :=
  ACalls Tryd.prog f args [(0, .cells 59 (rC p))] 1 fun r os n => (r = R ∧ os = [(0, .cells 59 (rC p'))]) ∧ n = 1
theorem rC_data (p : PSt) : DataL (rC p) := .cons (.v _) (.cons (.v _) (ActT.data _))
theorem DataL.und {l : List AV} {n : Nat} (h : DataL l) : UndL n l := by
  induction l with
  | nil => trivial
  | cons x l ih => exact ⟨.data (h x (List.mem_cons_self ..)), ih fun y hy => h y (List.mem_cons_of_mem _ hy)⟩
theorem DataL.ren {ρ : Nat → Nat} {l : List AV} (h : DataL l) : RenL ρ l l := by
  induction l with
  | nil => trivial
  | cons x l ih => exact ⟨.data (h x (List.mem_cons_self ..)), ih fun y hy => h y (List.mem_cons_of_mem _ hy)⟩
theorem RCalls.at {f : Nat} {args args' : List AV} {p p' : PSt} {R : AV} (h : RCalls f args p R p') {k : Nat} {os' : Os} {nx' : Nat} (hargs : RenL (renOf [k] nx') args args') (hR : Data R)
    (hk : getO os' k = some (.cells 59 (rC p))) (lk : k < nx') {Q' : AV → Os → Nat → Prop} (hq : Q' R (putO os' k (.cells 59 (rC p'))) nx') : ACalls Tryd.prog f args' os' nx' Q' := by
  have ren : ∀ p, RenOs (renOf [k] nx') 0 [.cells 59 (rC p)] [.cells 59 (rC p)] := fun p => ⟨.cells (rC_data p).ren, trivial⟩
  refine ACalls.at (args := args) (obs := [.cells 59 (rC p)]) (obs1 := [.cells 59 (rC p')]) (obs' := [.cells 59 (rC p)]) (obs1' := [.cells 59 (rC p')]) [k] ?_ rfl rfl (by simp) (by simpa using lk) hargs (.data hR) (ren p) ⟨hk, trivial⟩ (ren p') hq
  exact h.mono fun r os n ⟨⟨h1, h2⟩, h3⟩ => ⟨h1, h2, h3⟩
theorem rUnd {n : Nat} (h : 1 ≤ n) (p : PSt) : UndOs n [(0, .cells 59 (rC p))] := ⟨by omega, (rC_data p).und, trivial⟩
theorem TCutW (s : ByteArray) (hs : s.size ≤ 1048576) : APure Tryd.prog 40 [.v (.string s), .v (.string ⟨#[32]⟩)] (.tup [.v (.string (cutW s)), .v (.string (cutR s)), .v (.bool (Lib.cut s.data.toList [32]).2.2)]) := TCut_pure s 32 hs
theorem word_c (s : ByteArray) (b : Bool) (a : ActT) (hs : s.size ≤ 1048576) : RCalls 26 [.ptr 0 0] (⟨s, b, a⟩) (.v (.string (cutW s))) (⟨cutR s, b, a⟩) := by
  refine ACalls.clean (C := fun r os' => r = _ ∧ os' = _) ?_
  refine ACalls_intro Tryd.func26 (by kernel_rfl) rfl (by rw [Tryd.ntmps26]; simp) (fun hm => ?_)
  simp only [Tryd.ntmps26, Tryd.results26, List.length_cons, List.length_nil, Nat.reduceAdd, Nat.reduceSub, List.replicate_succ, List.replicate_zero, List.cons_append, List.nil_append]
  refine AWp_seqK fun Y0 y0 => ?_
  refine AWp_region ?_
  simp only [↓bO, go_sem, seval, rC_mk, ActT.cells]
  refine y0 _ ?_
  try clear y0 Y0
  refine AWp_seqK fun Y0 y0 => ?_
  refine AWp_region ?_
  iterate 4 (refine aops_chunk 1 fun Q0 q0 => ?_; simp only [↓bO, go_sem, seval, rC_mk, ActT.cells]; refine q0 _ ?_; clear q0 Q0; simp only [go_sem])
  refine aops_chunk 1 fun Q0 q0 => ?_
  simp only [↓bO, go_sem, seval, rC_mk, ActT.cells]
  refine APure.call (TCutW s hs) ?_
  try simp only [bS, bA, thenQ, blockQ, noGotoQ]
  refine q0 _ ?_
  clear q0 Q0
  simp only [go_sem]
  refine aops_chunk 1 fun Q0 q0 => ?_
  simp only [↓bO, go_sem, seval, rC_mk, ActT.cells]
  iterate 3 (refine q0 _ ?_; clear q0 Q0; simp only [go_sem]; refine aops_chunk 1 fun Q0 q0 => ?_; simp only [↓bO, go_sem, seval, aExtract_tup, rC_mk, ActT.cells])
  iterate 2 (refine q0 _ ?_; clear q0 Q0; simp only [go_sem]; refine aops_chunk 1 fun Q0 q0 => ?_; simp only [↓bO, go_sem, seval, rC_mk, ActT.cells])
  refine q0 _ ?_
  clear q0 Q0
  simp only [go_sem]
  simp only [↓bO, go_sem, seval, rC_mk, ActT.cells]
  refine y0 _ ?_
  try clear y0 Y0
  refine AWp_seqK fun Y0 y0 => ?_
  refine AWp_region ?_
  iterate 4 (refine aops_chunk 1 fun Q0 q0 => ?_; simp only [↓bO, go_sem, seval, rC_mk, ActT.cells]; refine q0 _ ?_; clear q0 Q0; simp only [go_sem])
  simp only [↓bO, go_sem, seval, rC_mk, ActT.cells]
  refine y0 _ ?_
  try clear y0 Y0
  refine AWp_seqK fun Y0 y0 => ?_
  refine AWp_region ?_
  refine aops_chunk 1 fun Q0 q0 => ?_
  simp only [↓bO, go_sem, seval, rC_mk, ActT.cells]
  refine q0 _ ?_
  clear q0 Q0
  simp only [go_sem]
  simp only [↓bO, go_sem, seval, rC_mk, ActT.cells]
  refine y0 _ ?_
  try clear y0 Y0
  refine AWp_ret ?_
  try simp only [thenQ, blockQ, noGotoQ, retQ, aRes, tupOf, bS, bA]
  refine ⟨_, _, ⟨rfl, rfl⟩, .v _ _, rUnd (by omega) _, ?_, ?_, by omega⟩
  · exact Le.refl _
  · first | exact ⟨0, rfl, rfl⟩ | exact ⟨1, rfl, rfl⟩ | exact ⟨2, rfl, rfl⟩ | exact ⟨3, rfl, rfl⟩
theorem number_ok (s : ByteArray) (b : Bool) (a : ActT) (hs : s.size ≤ 1048576) (h : atOk (tb (cutW s)) = true) : RCalls 42 [.ptr 0 0] (⟨s, b, a⟩) (.v (.int .i64 (atV (tb (cutW s))))) (⟨cutR s, b, a⟩) := by
  have hz := (cut_size s).1
  refine ACalls.clean (C := fun r os' => r = _ ∧ os' = _) ?_
  refine ACalls_intro Tryd.func42 (by kernel_rfl) rfl (by rw [Tryd.ntmps42]; simp) (fun hm => ?_)
  simp only [Tryd.ntmps42, Tryd.results42, List.length_cons, List.length_nil, Nat.reduceAdd, Nat.reduceSub, List.replicate_succ, List.replicate_zero, List.cons_append, List.nil_append]
  refine AWp_seqK fun Y0 y0 => ?_
  refine AWp_region ?_
  simp only [↓bO, go_sem, seval, rC_mk, ActT.cells]
  refine y0 _ ?_
  try clear y0 Y0
  refine AWp_seqK fun Y0 y0 => ?_
  refine AWp_region ?_
  refine aops_chunk 1 fun Q0 q0 => ?_
  simp only [↓bO, go_sem, seval, rC_mk, ActT.cells]
  refine q0 _ ?_
  clear q0 Q0
  simp only [go_sem]
  refine aops_chunk 1 fun Q0 q0 => ?_
  simp only [↓bO, go_sem, seval, rC_mk, ActT.cells]
  refine RCalls.at (k := 0) (word_c s b a hs) ?_ (.v _) rfl (by first | omega | (simp only; omega)) ?_
  · exact ⟨.ptr rfl, trivial⟩
  simp only [putO, Nat.reduceEqDiff, ↓reduceIte]
  try simp only [bS, bA, thenQ, blockQ, noGotoQ]
  refine q0 _ ?_
  clear q0 Q0
  simp only [go_sem]
  refine aops_chunk 1 fun Q0 q0 => ?_
  simp only [↓bO, go_sem, seval, rC_mk, ActT.cells]
  refine APure.call (TAtoi_ok (cutW s) (by omega) h) ?_
  try simp only [bS, bA, thenQ, blockQ, noGotoQ]
  refine q0 _ ?_
  clear q0 Q0
  simp only [go_sem]
  refine aops_chunk 1 fun Q0 q0 => ?_
  simp only [↓bO, go_sem, seval, rC_mk, ActT.cells]
  iterate 2 (refine q0 _ ?_; clear q0 Q0; simp only [go_sem]; refine aops_chunk 1 fun Q0 q0 => ?_; simp only [↓bO, go_sem, seval, aExtract_tup, rC_mk, ActT.cells])
  refine q0 _ ?_
  clear q0 Q0
  simp only [go_sem]
  refine aops_chunk 1 fun Q0 q0 => ?_
  simp only [↓bO, go_sem, seval, rC_mk, ActT.cells]
  refine q0 _ ?_
  clear q0 Q0
  simp only [go_sem]
  simp only [↓bO, go_sem, seval, rC_mk, ActT.cells]
  refine y0 _ ?_
  try clear y0 Y0
  refine AWp_seqK fun Y0 y0 => ?_
  refine AWp_region ?_
  iterate 6 (refine aops_chunk 1 fun Q0 q0 => ?_; simp only [↓bO, go_sem, seval, rC_mk, ActT.cells]; refine q0 _ ?_; clear q0 Q0; simp only [go_sem])
  refine aops_case 16 rfl (fun hc16 => ?_) (fun hc16 => ?_)
  ·
   simp only [List.set_cons_zero, List.set_cons_succ]
   obtain rfl : b = true := by simpa using hc16
   refine aops_chunk 1 fun Q0 q0 => ?_
   simp only [↓bO, go_sem, seval, rC_mk, ActT.cells]
   refine q0 _ ?_
   clear q0 Q0
   simp only [go_sem]
   refine aops_chunk 1 fun Q0 q0 => ?_
   simp only [↓bO, go_sem, seval, isCn, ↓if77, rC_mk, ActT.cells]
   iterate 3 (refine q0 _ ?_; clear q0 Q0; simp only [go_sem]; refine aops_chunk 1 fun Q0 q0 => ?_; simp only [↓bO, go_sem, seval, rC_mk, ActT.cells])
   refine q0 _ ?_
   clear q0 Q0
   simp only [go_sem]
   simp only [↓bO, go_sem, seval, rC_mk, ActT.cells]
   refine y0 _ ?_
   try clear y0 Y0
   refine AWp_seqK fun Y0 y0 => ?_
   refine AWp_region ?_
   refine aops_chunk 1 fun Q0 q0 => ?_
   simp only [↓bO, go_sem, seval, rC_mk, ActT.cells]
   refine q0 _ ?_
   clear q0 Q0
   simp only [go_sem]
   simp only [↓bO, go_sem, seval, rC_mk, ActT.cells]
   refine y0 _ ?_
   try clear y0 Y0
   refine AWp_ret ?_
   try simp only [thenQ, blockQ, noGotoQ, retQ, aRes, tupOf, bS, bA]
   refine ⟨_, _, ⟨rfl, rfl⟩, .v _ _, rUnd (by omega) _, ?_, ?_, by omega⟩
   · exact Le.refl _
   · first | exact ⟨0, rfl, rfl⟩ | exact ⟨1, rfl, rfl⟩ | exact ⟨2, rfl, rfl⟩ | exact ⟨3, rfl, rfl⟩
  ·
   simp only [List.set_cons_zero, List.set_cons_succ]
   obtain rfl : b = false := by simpa using hc16
   refine aops_chunk 1 fun Q0 q0 => ?_
   simp only [↓bO, go_sem, seval, rC_mk, ActT.cells]
   refine q0 _ ?_
   clear q0 Q0
   simp only [go_sem]
   refine aops_chunk 1 fun Q0 q0 => ?_
   simp only [↓bO, go_sem, seval, isCn, ↓if77, rC_mk, ActT.cells]
   iterate 3 (refine q0 _ ?_; clear q0 Q0; simp only [go_sem]; refine aops_chunk 1 fun Q0 q0 => ?_; simp only [↓bO, go_sem, seval, rC_mk, ActT.cells])
   refine q0 _ ?_
   clear q0 Q0
   simp only [go_sem]
   simp only [↓bO, go_sem, seval, rC_mk, ActT.cells]
   refine y0 _ ?_
   try clear y0 Y0
   refine AWp_seqK fun Y0 y0 => ?_
   refine AWp_region ?_
   refine aops_chunk 1 fun Q0 q0 => ?_
   simp only [↓bO, go_sem, seval, rC_mk, ActT.cells]
   refine q0 _ ?_
   clear q0 Q0
   simp only [go_sem]
   simp only [↓bO, go_sem, seval, rC_mk, ActT.cells]
   refine y0 _ ?_
   try clear y0 Y0
   refine AWp_ret ?_
   try simp only [thenQ, blockQ, noGotoQ, retQ, aRes, tupOf, bS, bA]
   refine ⟨_, _, ⟨rfl, rfl⟩, .v _ _, rUnd (by omega) _, ?_, ?_, by omega⟩
   · exact Le.refl _
   · first | exact ⟨0, rfl, rfl⟩ | exact ⟨1, rfl, rfl⟩ | exact ⟨2, rfl, rfl⟩ | exact ⟨3, rfl, rfl⟩
theorem number_no (s : ByteArray) (b : Bool) (a : ActT) (hs : s.size ≤ 1048576) (h : atOk (tb (cutW s)) = false) : RCalls 42 [.ptr 0 0] (⟨s, b, a⟩) (.v (.int .i64 (atV (tb (cutW s))))) (⟨cutR s, true, a⟩) := by
  have hz := (cut_size s).1
  refine ACalls.clean (C := fun r os' => r = _ ∧ os' = _) ?_
  refine ACalls_intro Tryd.func42 (by kernel_rfl) rfl (by rw [Tryd.ntmps42]; simp) (fun hm => ?_)
  simp only [Tryd.ntmps42, Tryd.results42, List.length_cons, List.length_nil, Nat.reduceAdd, Nat.reduceSub, List.replicate_succ, List.replicate_zero, List.cons_append, List.nil_append]
  refine AWp_seqK fun Y0 y0 => ?_
  refine AWp_region ?_
  simp only [↓bO, go_sem, seval, rC_mk, ActT.cells]
  refine y0 _ ?_
  try clear y0 Y0
  refine AWp_seqK fun Y0 y0 => ?_
  refine AWp_region ?_
  refine aops_chunk 1 fun Q0 q0 => ?_
  simp only [↓bO, go_sem, seval, rC_mk, ActT.cells]
  refine q0 _ ?_
  clear q0 Q0
  simp only [go_sem]
  refine aops_chunk 1 fun Q0 q0 => ?_
  simp only [↓bO, go_sem, seval, rC_mk, ActT.cells]
  refine RCalls.at (k := 0) (word_c s b a hs) ?_ (.v _) rfl (by first | omega | (simp only; omega)) ?_
  · exact ⟨.ptr rfl, trivial⟩
  simp only [putO, Nat.reduceEqDiff, ↓reduceIte]
  try simp only [bS, bA, thenQ, blockQ, noGotoQ]
  refine q0 _ ?_
  clear q0 Q0
  simp only [go_sem]
  refine aops_chunk 1 fun Q0 q0 => ?_
  simp only [↓bO, go_sem, seval, rC_mk, ActT.cells]
  refine TAtoi_no (cutW s) (by omega) h fun t p => ?_
  try simp only [bS, bA, thenQ, blockQ, noGotoQ]
  refine q0 _ ?_
  clear q0 Q0
  simp only [go_sem]
  refine aops_chunk 1 fun Q0 q0 => ?_
  simp only [↓bO, go_sem, seval, rC_mk, ActT.cells]
  iterate 2 (refine q0 _ ?_; clear q0 Q0; simp only [go_sem]; refine aops_chunk 1 fun Q0 q0 => ?_; simp only [↓bO, go_sem, seval, aExtract_tup, rC_mk, ActT.cells])
  refine q0 _ ?_
  clear q0 Q0
  simp only [go_sem]
  refine aops_chunk 1 fun Q0 q0 => ?_
  simp only [↓bO, go_sem, seval, rC_mk, ActT.cells]
  refine q0 _ ?_
  clear q0 Q0
  simp only [go_sem]
  simp only [↓bO, go_sem, seval, rC_mk, ActT.cells]
  refine y0 _ ?_
  try clear y0 Y0
  refine AWp_seqK fun Y0 y0 => ?_
  refine AWp_region ?_
  iterate 6 (refine aops_chunk 1 fun Q0 q0 => ?_; simp only [↓bO, go_sem, seval, rC_mk, ActT.cells]; refine q0 _ ?_; clear q0 Q0; simp only [go_sem])
  refine aops_case 16 rfl (fun hc16 => ?_) (fun hc16 => ?_)
  ·
   simp only [List.set_cons_zero, List.set_cons_succ]
   refine aops_chunk 1 fun Q0 q0 => ?_
   simp only [↓bO, go_sem, seval, rC_mk, ActT.cells]
   refine q0 _ ?_
   clear q0 Q0
   simp only [go_sem]
   refine aops_chunk 1 fun Q0 q0 => ?_
   simp only [↓bO, go_sem, seval, isCn, ↓if77, rC_mk, ActT.cells]
   iterate 3 (refine q0 _ ?_; clear q0 Q0; simp only [go_sem]; refine aops_chunk 1 fun Q0 q0 => ?_; simp only [↓bO, go_sem, seval, rC_mk, ActT.cells])
   refine q0 _ ?_
   clear q0 Q0
   simp only [go_sem]
   simp only [↓bO, go_sem, seval, rC_mk, ActT.cells]
   refine y0 _ ?_
   try clear y0 Y0
   refine AWp_seqK fun Y0 y0 => ?_
   refine AWp_region ?_
   refine aops_chunk 1 fun Q0 q0 => ?_
   simp only [↓bO, go_sem, seval, rC_mk, ActT.cells]
   refine q0 _ ?_
   clear q0 Q0
   simp only [go_sem]
   simp only [↓bO, go_sem, seval, rC_mk, ActT.cells]
   refine y0 _ ?_
   try clear y0 Y0
   refine AWp_ret ?_
   try simp only [thenQ, blockQ, noGotoQ, retQ, aRes, tupOf, bS, bA]
   refine ⟨_, _, ⟨rfl, rfl⟩, .v _ _, rUnd (by omega) _, ?_, ?_, by omega⟩
   · exact Le.refl _
   · first | exact ⟨0, rfl, rfl⟩ | exact ⟨1, rfl, rfl⟩ | exact ⟨2, rfl, rfl⟩ | exact ⟨3, rfl, rfl⟩
  ·
   simp only [List.set_cons_zero, List.set_cons_succ]
   refine aops_chunk 1 fun Q0 q0 => ?_
   simp only [↓bO, go_sem, seval, rC_mk, ActT.cells]
   refine q0 _ ?_
   clear q0 Q0
   simp only [go_sem]
   refine aops_chunk 1 fun Q0 q0 => ?_
   simp only [↓bO, go_sem, seval, isCn, ↓if77, rC_mk, ActT.cells]
   iterate 3 (refine q0 _ ?_; clear q0 Q0; simp only [go_sem]; refine aops_chunk 1 fun Q0 q0 => ?_; simp only [↓bO, go_sem, seval, rC_mk, ActT.cells])
   refine q0 _ ?_
   clear q0 Q0
   simp only [go_sem]
   simp only [↓bO, go_sem, seval, rC_mk, ActT.cells]
   refine y0 _ ?_
   try clear y0 Y0
   refine AWp_seqK fun Y0 y0 => ?_
   refine AWp_region ?_
   refine aops_chunk 1 fun Q0 q0 => ?_
   simp only [↓bO, go_sem, seval, rC_mk, ActT.cells]
   refine q0 _ ?_
   clear q0 Q0
   simp only [go_sem]
   simp only [↓bO, go_sem, seval, rC_mk, ActT.cells]
   refine y0 _ ?_
   try clear y0 Y0
   refine AWp_ret ?_
   try simp only [thenQ, blockQ, noGotoQ, retQ, aRes, tupOf, bS, bA]
   refine ⟨_, _, ⟨rfl, rfl⟩, .v _ _, rUnd (by omega) _, ?_, ?_, by omega⟩
   · exact Le.refl _
   · first | exact ⟨0, rfl, rfl⟩ | exact ⟨1, rfl, rfl⟩ | exact ⟨2, rfl, rfl⟩ | exact ⟨3, rfl, rfl⟩
theorem number_c (p : PSt) (hs : p.rest.size ≤ 1048576) : RCalls 42 [.ptr 0 0] p (.v (.int .i64 (numV p))) p.num := by
  obtain ⟨s, b, a⟩ := p
  unfold numV PSt.num numB
  simp only at hs ⊢
  cases h : atOk (tb (cutW s)) with
  | true => simp only [Bool.not_true, Bool.or_false]; exact number_ok s b a hs h
  | false => simp only [Bool.not_false, Bool.or_true]; exact number_no s b a hs h
theorem use_c (p : PSt) (c : UInt8) (hs : p.rest.size ≤ 600000) : RCalls 28 [.ptr 0 0, .v (.int .i32 (c.toNat : Int))] (p) (.tup []) (useS p c.toNat) := by
  have hz := (cut_size p.rest).2
  have hz2 : p.num.rest.size ≤ p.rest.size := hz
  have hz3 := (cut_size p.num.rest).2
  have hz4 : p.num.num.rest.size ≤ p.num.rest.size := hz3
  refine ACalls.clean (C := fun r os' => r = _ ∧ os' = _) ?_
  refine ACalls_intro Tryd.func28 (by kernel_rfl) rfl (by rw [Tryd.ntmps28]; simp) (fun hm => ?_)
  simp only [Tryd.ntmps28, Tryd.results28, List.length_cons, List.length_nil, Nat.reduceAdd, Nat.reduceSub, List.replicate_succ, List.replicate_zero, List.cons_append, List.nil_append]
  refine AWp_seqK fun Y0 y0 => ?_
  refine AWp_region ?_
  simp only [↓bO, go_sem, seval, rC, ActT.cells, unqA]
  refine y0 _ ?_
  try clear y0 Y0
  refine AWp_block ?_
  refine AWp_seqK fun Y0 y0 => ?_
  refine AWp_region ?_
  refine aops_chunk 1 fun Q0 q0 => ?_
  simp only [↓bO, go_sem, seval, rC, ActT.cells, unqA]
  refine q0 _ ?_
  clear q0 Q0
  simp only [go_sem]
  simp only [↓bO, go_sem, seval, rC, ActT.cells, unqA]
  refine y0 _ ?_
  try clear y0 Y0
  refine AWp_cond rfl (fun hb7 => ?_) (fun hb7 => ?_)
  ·
   have e110 : c.toNat = 110 := (by have h9 := hb7; simp at h9; omega)
   have hnx : useS p c.toNat = ⟨cutR p.rest, p.bad, { p.act with name := cutW p.rest }⟩ := by (unfold useS; rw [if_pos e110])
   refine AWp_region ?_
   iterate 4 (refine aops_chunk 1 fun Q0 q0 => ?_; simp only [↓bO, go_sem, seval, rC, ActT.cells, unqA]; refine q0 _ ?_; clear q0 Q0; simp only [go_sem])
   refine aops_chunk 1 fun Q0 q0 => ?_
   simp only [↓bO, go_sem, seval, rC, ActT.cells, unqA]
   refine RCalls.at (k := 0) (word_c p.rest p.bad p.act (by omega)) ?_ (.v _) rfl (by first | omega | (simp only; omega)) ?_
   · exact ⟨.ptr rfl, trivial⟩
   simp only [putO, Nat.reduceEqDiff, ↓reduceIte]
   try simp only [bS, bA, thenQ, blockQ, noGotoQ]
   iterate 3 (refine q0 _ ?_; clear q0 Q0; simp only [go_sem]; refine aops_chunk 1 fun Q0 q0 => ?_; simp only [↓bO, go_sem, seval, rC, ActT.cells, unqA])
   refine q0 _ ?_
   clear q0 Q0
   simp only [go_sem]
   simp only [↓bO, go_sem, seval, rC, ActT.cells, unqA]
   try simp only [thenQ, blockQ, noGotoQ, retQ, aRes, tupOf, bS, bA]
   rw [hnx]
   refine ⟨_, _, ⟨rfl, rfl⟩, .data (.tup .nil), rUnd (by omega) _, ?_, ?_, by omega⟩
   · exact Le.refl _
   · first | exact ⟨0, rfl, rfl⟩ | exact ⟨1, rfl, rfl⟩ | exact ⟨2, rfl, rfl⟩ | exact ⟨3, rfl, rfl⟩
  ·
   have e110 : ¬ c.toNat = 110 := (by have h9 := hb7; simp at h9; omega)
   refine AWp_seqK fun Y0 y0 => ?_
   refine AWp_region ?_
   refine aops_chunk 1 fun Q0 q0 => ?_
   simp only [↓bO, go_sem, seval, rC, ActT.cells, unqA]
   refine q0 _ ?_
   clear q0 Q0
   simp only [go_sem]
   simp only [↓bO, go_sem, seval, rC, ActT.cells, unqA]
   refine y0 _ ?_
   try clear y0 Y0
   refine AWp_cond rfl (fun hb17 => ?_) (fun hb17 => ?_)
   ·
    have e116 : c.toNat = 116 := (by have h9 := hb17; simp at h9; omega)
    have hnx : useS p c.toNat = ⟨ByteArray.empty, p.bad || !(unqL (tb p.rest)).isSome, { p.act with text := unqS p.rest }⟩ := by (unfold useS; rw [if_neg (by omega), if_pos e116])
    refine AWp_seqK fun Y0 y0 => ?_
    refine AWp_region ?_
    iterate 5 (refine aops_chunk 1 fun Q0 q0 => ?_; simp only [↓bO, go_sem, seval, rC, ActT.cells, unqA]; refine q0 _ ?_; clear q0 Q0; simp only [go_sem])
    refine aops_chunk 1 fun Q0 q0 => ?_
    simp only [↓bO, go_sem, seval, rC, ActT.cells, unqA]
    refine APure.call (Unquote_pure p.rest hs) ?_
    try simp only [bS, bA, thenQ, blockQ, noGotoQ]
    refine q0 _ ?_
    clear q0 Q0
    simp only [go_sem]
    refine aops_chunk 1 fun Q0 q0 => ?_
    simp only [↓bO, go_sem, seval, rC, ActT.cells, unqA]
    iterate 2 (refine q0 _ ?_; clear q0 Q0; simp only [go_sem]; refine aops_chunk 1 fun Q0 q0 => ?_; simp only [↓bO, go_sem, seval, aExtract_tup, rC, ActT.cells, unqA])
    refine q0 _ ?_
    clear q0 Q0
    simp only [go_sem]
    refine aops_chunk 1 fun Q0 q0 => ?_
    simp only [↓bO, go_sem, seval, rC, ActT.cells, unqA]
    refine q0 _ ?_
    clear q0 Q0
    simp only [go_sem]
    simp only [↓bO, go_sem, seval, rC, ActT.cells, unqA]
    refine y0 _ ?_
    try clear y0 Y0
    refine AWp_region ?_
    iterate 10 (refine aops_chunk 1 fun Q0 q0 => ?_; simp only [↓bO, go_sem, seval, rC, ActT.cells, unqA]; refine q0 _ ?_; clear q0 Q0; simp only [go_sem])
    refine aops_case 37 rfl (fun hc37 => ?_) (fun hc37 => ?_)
    ·
     simp only [List.set_cons_zero, List.set_cons_succ]
     have hbd : p.bad = true := (by have h9 := hc37; simpa using h9)
     have hnx : useS p c.toNat = ⟨ByteArray.empty, true, { p.act with text := unqS p.rest }⟩ := by (rw [hnx, hbd]; rfl)
     iterate 14 (refine aops_chunk 1 fun Q0 q0 => ?_; simp only [↓bO, go_sem, seval, rC, ActT.cells, unqA]; refine q0 _ ?_; clear q0 Q0; simp only [go_sem])
     simp only [↓bO, go_sem, seval, rC, ActT.cells, unqA]
     try simp only [thenQ, blockQ, noGotoQ, retQ, aRes, tupOf, bS, bA]
     rw [hnx]
     refine ⟨_, _, ⟨rfl, rfl⟩, .data (.tup .nil), rUnd (by omega) _, ?_, ?_, by omega⟩
     · exact Le.refl _
     · first | exact ⟨0, rfl, rfl⟩ | exact ⟨1, rfl, rfl⟩ | exact ⟨2, rfl, rfl⟩ | exact ⟨3, rfl, rfl⟩
    ·
     simp only [List.set_cons_zero, List.set_cons_succ]
     have hbd : p.bad = false := (by have h9 := hc37; simpa using h9)
     have hnx : useS p c.toNat = ⟨ByteArray.empty, !(unqL (tb p.rest)).isSome, { p.act with text := unqS p.rest }⟩ := by (rw [hnx, hbd]; rfl)
     iterate 14 (refine aops_chunk 1 fun Q0 q0 => ?_; simp only [↓bO, go_sem, seval, rC, ActT.cells, unqA]; refine q0 _ ?_; clear q0 Q0; simp only [go_sem])
     simp only [↓bO, go_sem, seval, rC, ActT.cells, unqA]
     try simp only [thenQ, blockQ, noGotoQ, retQ, aRes, tupOf, bS, bA]
     rw [hnx]
     refine ⟨_, _, ⟨rfl, rfl⟩, .data (.tup .nil), rUnd (by omega) _, ?_, ?_, by omega⟩
     · exact Le.refl _
     · first | exact ⟨0, rfl, rfl⟩ | exact ⟨1, rfl, rfl⟩ | exact ⟨2, rfl, rfl⟩ | exact ⟨3, rfl, rfl⟩
   ·
    have e116 : ¬ c.toNat = 116 := (by have h9 := hb17; simp at h9; omega)
    refine AWp_seqK fun Y0 y0 => ?_
    refine AWp_region ?_
    refine aops_chunk 1 fun Q0 q0 => ?_
    simp only [↓bO, go_sem, seval, rC, ActT.cells, unqA]
    refine q0 _ ?_
    clear q0 Q0
    simp only [go_sem]
    simp only [↓bO, go_sem, seval, rC, ActT.cells, unqA]
    refine y0 _ ?_
    try clear y0 Y0
    refine AWp_cond rfl (fun hb50 => ?_) (fun hb50 => ?_)
    ·
     have e102 : c.toNat = 102 := (by have h9 := hb50; simp at h9; omega)
     have hnx : useS p c.toNat = ⟨cutR p.rest, numB p, { p.act with p1 := numV p }⟩ := by (unfold useS; rw [if_neg (by omega), if_neg (by omega), if_pos e102])
     refine AWp_region ?_
     iterate 4 (refine aops_chunk 1 fun Q0 q0 => ?_; simp only [↓bO, go_sem, seval, rC, ActT.cells, unqA]; refine q0 _ ?_; clear q0 Q0; simp only [go_sem])
     refine aops_chunk 1 fun Q0 q0 => ?_
     simp only [↓bO, go_sem, seval, rC, ActT.cells, unqA]
     refine RCalls.at (k := 0) (number_c p (by omega)) ?_ (.v _) rfl (by first | omega | (simp only; omega)) ?_
     · exact ⟨.ptr rfl, trivial⟩
     simp only [putO, Nat.reduceEqDiff, ↓reduceIte]
     try simp only [bS, bA, thenQ, blockQ, noGotoQ]
     iterate 3 (refine q0 _ ?_; clear q0 Q0; simp only [go_sem]; refine aops_chunk 1 fun Q0 q0 => ?_; simp only [↓bO, go_sem, seval, rC, ActT.cells, unqA])
     refine q0 _ ?_
     clear q0 Q0
     simp only [go_sem]
     simp only [↓bO, go_sem, seval, rC, ActT.cells, unqA]
     try simp only [thenQ, blockQ, noGotoQ, retQ, aRes, tupOf, bS, bA]
     rw [hnx]
     refine ⟨_, _, ⟨rfl, rfl⟩, .data (.tup .nil), rUnd (by omega) _, ?_, ?_, by omega⟩
     · exact Le.refl _
     · first | exact ⟨0, rfl, rfl⟩ | exact ⟨1, rfl, rfl⟩ | exact ⟨2, rfl, rfl⟩ | exact ⟨3, rfl, rfl⟩
    ·
     have e102 : ¬ c.toNat = 102 := (by have h9 := hb50; simp at h9; omega)
     refine AWp_seqK fun Y0 y0 => ?_
     refine AWp_region ?_
     refine aops_chunk 1 fun Q0 q0 => ?_
     simp only [↓bO, go_sem, seval, rC, ActT.cells, unqA]
     refine q0 _ ?_
     clear q0 Q0
     simp only [go_sem]
     simp only [↓bO, go_sem, seval, rC, ActT.cells, unqA]
     refine y0 _ ?_
     try clear y0 Y0
     refine AWp_cond rfl (fun hb60 => ?_) (fun hb60 => ?_)
     ·
      have e111 : c.toNat = 111 := (by have h9 := hb60; simp at h9; omega)
      have hnx : useS p c.toNat = ⟨cutR p.rest, numB p, { p.act with p2 := numV p }⟩ := by (unfold useS; rw [if_neg (by omega), if_neg (by omega), if_neg (by omega), if_pos e111])
      refine AWp_region ?_
      iterate 4 (refine aops_chunk 1 fun Q0 q0 => ?_; simp only [↓bO, go_sem, seval, rC, ActT.cells, unqA]; refine q0 _ ?_; clear q0 Q0; simp only [go_sem])
      refine aops_chunk 1 fun Q0 q0 => ?_
      simp only [↓bO, go_sem, seval, rC, ActT.cells, unqA]
      refine RCalls.at (k := 0) (number_c p (by omega)) ?_ (.v _) rfl (by first | omega | (simp only; omega)) ?_
      · exact ⟨.ptr rfl, trivial⟩
      simp only [putO, Nat.reduceEqDiff, ↓reduceIte]
      try simp only [bS, bA, thenQ, blockQ, noGotoQ]
      iterate 3 (refine q0 _ ?_; clear q0 Q0; simp only [go_sem]; refine aops_chunk 1 fun Q0 q0 => ?_; simp only [↓bO, go_sem, seval, rC, ActT.cells, unqA])
      refine q0 _ ?_
      clear q0 Q0
      simp only [go_sem]
      simp only [↓bO, go_sem, seval, rC, ActT.cells, unqA]
      try simp only [thenQ, blockQ, noGotoQ, retQ, aRes, tupOf, bS, bA]
      rw [hnx]
      refine ⟨_, _, ⟨rfl, rfl⟩, .data (.tup .nil), rUnd (by omega) _, ?_, ?_, by omega⟩
      · exact Le.refl _
      · first | exact ⟨0, rfl, rfl⟩ | exact ⟨1, rfl, rfl⟩ | exact ⟨2, rfl, rfl⟩ | exact ⟨3, rfl, rfl⟩
     ·
      have e111 : ¬ c.toNat = 111 := (by have h9 := hb60; simp at h9; omega)
      refine AWp_seqK fun Y0 y0 => ?_
      refine AWp_region ?_
      refine aops_chunk 1 fun Q0 q0 => ?_
      simp only [↓bO, go_sem, seval, rC, ActT.cells, unqA]
      refine q0 _ ?_
      clear q0 Q0
      simp only [go_sem]
      simp only [↓bO, go_sem, seval, rC, ActT.cells, unqA]
      refine y0 _ ?_
      try clear y0 Y0
      refine AWp_cond rfl (fun hb70 => ?_) (fun hb70 => ?_)
      ·
       have e117 : c.toNat = 117 := (by have h9 := hb70; simp at h9; omega)
       have hnx : useS p c.toNat = ⟨cutR p.rest, numB p, { p.act with n := numV p }⟩ := by (unfold useS; rw [if_neg (by omega), if_neg (by omega), if_neg (by omega), if_neg (by omega), if_pos e117])
       refine AWp_region ?_
       iterate 4 (refine aops_chunk 1 fun Q0 q0 => ?_; simp only [↓bO, go_sem, seval, rC, ActT.cells, unqA]; refine q0 _ ?_; clear q0 Q0; simp only [go_sem])
       refine aops_chunk 1 fun Q0 q0 => ?_
       simp only [↓bO, go_sem, seval, rC, ActT.cells, unqA]
       refine RCalls.at (k := 0) (number_c p (by omega)) ?_ (.v _) rfl (by first | omega | (simp only; omega)) ?_
       · exact ⟨.ptr rfl, trivial⟩
       simp only [putO, Nat.reduceEqDiff, ↓reduceIte]
       try simp only [bS, bA, thenQ, blockQ, noGotoQ]
       iterate 3 (refine q0 _ ?_; clear q0 Q0; simp only [go_sem]; refine aops_chunk 1 fun Q0 q0 => ?_; simp only [↓bO, go_sem, seval, rC, ActT.cells, unqA])
       refine q0 _ ?_
       clear q0 Q0
       simp only [go_sem]
       simp only [↓bO, go_sem, seval, rC, ActT.cells, unqA]
       try simp only [thenQ, blockQ, noGotoQ, retQ, aRes, tupOf, bS, bA]
       rw [hnx]
       refine ⟨_, _, ⟨rfl, rfl⟩, .data (.tup .nil), rUnd (by omega) _, ?_, ?_, by omega⟩
       · exact Le.refl _
       · first | exact ⟨0, rfl, rfl⟩ | exact ⟨1, rfl, rfl⟩ | exact ⟨2, rfl, rfl⟩ | exact ⟨3, rfl, rfl⟩
      ·
       have e117 : ¬ c.toNat = 117 := (by have h9 := hb70; simp at h9; omega)
       refine AWp_seqK fun Y0 y0 => ?_
       refine AWp_region ?_
       refine aops_chunk 1 fun Q0 q0 => ?_
       simp only [↓bO, go_sem, seval, rC, ActT.cells, unqA]
       refine q0 _ ?_
       clear q0 Q0
       simp only [go_sem]
       simp only [↓bO, go_sem, seval, rC, ActT.cells, unqA]
       refine y0 _ ?_
       try clear y0 Y0
       refine AWp_cond rfl (fun hb80 => ?_) (fun hb80 => ?_)
       ·
        have e108 : c.toNat = 108 := (by have h9 := hb80; simp at h9; omega)
        have hnx : useS p c.toNat = ⟨cutR p.num.num.rest, numB p.num.num, { p.act with lb := numV p, ld := numV p.num, le := numV p.num.num }⟩ := by (unfold useS; rw [if_neg (by omega), if_neg (by omega), if_neg (by omega), if_neg (by omega), if_neg (by omega), if_pos e108])
        refine AAny_start [] 18 rfl mixed (trivial) rfl ?_
        dsimp only
        refine AAny_takeK 0 rfl (by kernel_rfl) (by kernel_rfl) (by kernel_rfl) (fun _ _ h => h) fun Q0 q0 => ?_
        simp only [↓bO, go_sem, seval, rC, ActT.cells, unqA]
        refine q0 _ ?_
        clear q0 Q0
        refine AAny_takeK 1 rfl (by kernel_rfl) (by kernel_rfl) (by kernel_rfl) (fun _ _ h => h) fun Q0 q0 => ?_
        simp only [↓bO, go_sem, seval, rC, ActT.cells, unqA]
        refine q0 _ ?_
        clear q0 Q0
        refine AAny_takeK 2 rfl (by kernel_rfl) (by kernel_rfl) (by kernel_rfl) (fun _ _ h => h) fun Q0 q0 => ?_
        simp only [↓bO, go_sem, seval, rC, ActT.cells, unqA]
        refine q0 _ ?_
        clear q0 Q0
        refine AAny_takeK 3 rfl (by kernel_rfl) (by kernel_rfl) (by kernel_rfl) (fun _ _ h => h) fun Q0 q0 => ?_
        simp only [↓bO, go_sem, seval, rC, ActT.cells, unqA]
        refine q0 _ ?_
        clear q0 Q0
        refine AAny_takeK 5 rfl (by kernel_rfl) (by kernel_rfl) (by kernel_rfl) (fun _ _ h => h) fun Q0 q0 => ?_
        simp only [↓bO, go_sem, seval, rC, ActT.cells, unqA]
        refine q0 _ ?_
        clear q0 Q0
        refine AAny_takeK 6 rfl (by kernel_rfl) (by kernel_rfl) (by kernel_rfl) (fun _ _ h => h) fun Q0 q0 => ?_
        simp only [↓bO, go_sem, seval, rC, ActT.cells, unqA]
        refine q0 _ ?_
        clear q0 Q0
        refine AAny_takeK 7 rfl (by kernel_rfl) (by kernel_rfl) (by kernel_rfl) (fun _ _ h => h) fun Q0 q0 => ?_
        simp only [↓bO, go_sem, seval, rC, ActT.cells, unqA]
        refine q0 _ ?_
        clear q0 Q0
        refine AAny_takeK 9 rfl (by kernel_rfl) (by kernel_rfl) (by kernel_rfl) (fun _ _ h => h) fun Q0 q0 => ?_
        simp only [↓bO, go_sem, seval, rC, ActT.cells, unqA]
        refine q0 _ ?_
        clear q0 Q0
        refine AAny_takeK 10 rfl (by kernel_rfl) (by kernel_rfl) (by kernel_rfl) (fun _ _ h => h) fun Q0 q0 => ?_
        simp only [↓bO, go_sem, seval, rC, ActT.cells, unqA]
        refine q0 _ ?_
        clear q0 Q0
        refine AAny_takeK 11 rfl (by kernel_rfl) (by kernel_rfl) (by kernel_rfl) (fun _ _ h => h) fun Q0 q0 => ?_
        simp only [↓bO, go_sem, seval, rC, ActT.cells, unqA]
        refine q0 _ ?_
        clear q0 Q0
        refine AAny_all1 (i := 4) (by kernel_rfl) ?_
        ·
         refine aAt_op rfl rfl fun Q0 q0 => ?_
         simp only [↓bO, go_sem, seval, rC, ActT.cells, unqA]
         refine RCalls.at (k := 0) (number_c p (by omega)) ?_ (.v _) rfl (by first | omega | (simp only; omega)) ?_
         · exact ⟨.ptr rfl, trivial⟩
         simp only [putO, Nat.reduceEqDiff, ↓reduceIte]
         try simp only [bS, bA]
         refine q0 _ ⟨trivial, ?_⟩
         clear q0 Q0
         refine AAny_all1 (i := 8) (by kernel_rfl) ?_
         ·
          refine aAt_op rfl rfl fun Q0 q0 => ?_
          simp only [↓bO, go_sem, seval, rC, ActT.cells, unqA]
          refine RCalls.at (k := 0) (number_c p.num (by omega)) ?_ (.v _) rfl (by first | omega | (simp only; omega)) ?_
          · exact ⟨.ptr rfl, trivial⟩
          simp only [putO, Nat.reduceEqDiff, ↓reduceIte]
          try simp only [bS, bA]
          refine q0 _ ⟨trivial, ?_⟩
          clear q0 Q0
          refine AAny_all1 (i := 12) (by kernel_rfl) ?_
          ·
           refine aAt_op rfl rfl fun Q0 q0 => ?_
           simp only [↓bO, go_sem, seval, rC, ActT.cells, unqA]
           refine RCalls.at (k := 0) (number_c p.num.num (by omega)) ?_ (.v _) rfl (by first | omega | (simp only; omega)) ?_
           · exact ⟨.ptr rfl, trivial⟩
           simp only [putO, Nat.reduceEqDiff, ↓reduceIte]
           try simp only [bS, bA]
           refine q0 _ ⟨trivial, ?_⟩
           clear q0 Q0
           refine AAny_all1 (i := 13) (by kernel_rfl) ?_
           ·
            refine aAt_op rfl rfl fun Q0 q0 => ?_
            simp only [↓bO, go_sem, seval, rC, ActT.cells, unqA]
            refine q0 _ ⟨trivial, ?_⟩
            clear q0 Q0
            refine AAny_takeK 14 rfl (by kernel_rfl) (by kernel_rfl) (by kernel_rfl) (fun _ _ h => h) fun Q0 q0 => ?_
            simp only [↓bO, go_sem, seval, rC, ActT.cells, unqA]
            refine q0 _ ?_
            clear q0 Q0
            refine AAny_takeK 15 rfl (by kernel_rfl) (by kernel_rfl) (by kernel_rfl) (fun _ _ h => h) fun Q0 q0 => ?_
            simp only [↓bO, go_sem, seval, rC, ActT.cells, unqA]
            refine q0 _ ?_
            clear q0 Q0
            refine AAny_takeK 16 rfl (by kernel_rfl) (by kernel_rfl) (by kernel_rfl) (fun _ _ h => h) fun Q0 q0 => ?_
            simp only [↓bO, go_sem, seval, rC, ActT.cells, unqA]
            refine q0 _ ?_
            clear q0 Q0
            refine AAny_all1 (i := 17) (by kernel_rfl) ?_
            ·
             refine aAt_op rfl rfl fun Q0 q0 => ?_
             simp only [↓bO, go_sem, seval, rC, ActT.cells, unqA]
             refine q0 _ ⟨trivial, ?_⟩
             clear q0 Q0
             refine AAny_done (by kernel_rfl) ?_
             simp only [thenQ, blockQ, noGotoQ]
             try simp only [thenQ, blockQ, noGotoQ, retQ, aRes, tupOf, bS, bA]
             rw [hnx]
             refine ⟨_, _, ⟨rfl, rfl⟩, .data (.tup .nil), rUnd (by omega) _, ?_, ?_, by omega⟩
             · exact Le.refl _
             · first | exact ⟨0, rfl, rfl⟩ | exact ⟨1, rfl, rfl⟩ | exact ⟨2, rfl, rfl⟩ | exact ⟨3, rfl, rfl⟩
       ·
        have e108 : ¬ c.toNat = 108 := (by have h9 := hb80; simp at h9; omega)
        have hnx : useS p c.toNat = p := by (unfold useS; rw [if_neg e110, if_neg e116, if_neg e102, if_neg e111, if_neg e117, if_neg e108])
        refine AWp_skip ?_
        try simp only [thenQ, blockQ, noGotoQ]
        try simp only [thenQ, blockQ, noGotoQ, retQ, aRes, tupOf, bS, bA]
        rw [hnx]
        refine ⟨_, _, ⟨rfl, rfl⟩, .data (.tup .nil), rUnd (by omega) _, ?_, ?_, by omega⟩
        · exact Le.refl _
        · first | exact ⟨0, rfl, rfl⟩ | exact ⟨1, rfl, rfl⟩ | exact ⟨2, rfl, rfl⟩ | exact ⟨3, rfl, rfl⟩
theorem byte_tb {s : ByteArray} {i : Nat} (h : i < s.size) : (tb s)[i]? = some ((s[i]?).getD 0) := byte_at h
theorem head_tb {s : ByteArray} (h : 0 < s.size) {c : UInt8} (hc : (s[0]?).getD 0 = c) : ∃ r, tb s = c :: r := by
  have h1 := byte_tb h
  rw [hc] at h1
  cases ht : tb s with
  | nil => rw [ht] at h1; cases h1
  | cons x r => rw [ht] at h1; cases h1; exact ⟨r, rfl⟩
theorem ex_tb (s : ByteArray) (a b : Nat) : s.extract a b = ofL (((tb s).drop a).take (b - a)) := by
  apply tb_inj
  rw [tb_ofL]
  unfold tb
  rw [ByteArray.data_extract, Array.toList_extract, List.extract_eq_take_drop]
theorem nu_minus {s : ByteArray} (h0 : 0 < s.size) (h : (((s[0]?).getD 0).toNat : Int) = 45) : ofL (nuD (tb s)) = s.extract 1 s.size ∧ decide ((tb s).head? = some 45) = true := by
  obtain ⟨r, hr⟩ := head_tb h0 rfl
  have h45 : (s[0]?).getD 0 = 45 := UInt8.toNat_inj.1 (by show _ = 45; omega)
  rw [h45] at hr
  have hl := tb_len s
  unfold nuD
  rw [hr] at hl ⊢
  refine ⟨?_, rfl⟩
  rw [if_pos (show ((45 : UInt8) :: r).head? = some 45 from rfl), ex_tb, hr]
  simp only [List.drop_succ_cons, List.drop_zero]
  simp only [List.length_cons] at hl
  rw [List.take_of_length_le (by omega)]
theorem nu_plus {s : ByteArray} (h : s.size = 0 ∨ ¬ (((s[0]?).getD 0).toNat : Int) = 45) : ofL (nuD (tb s)) = s ∧ decide ((tb s).head? = some 45) = false := by
  have hh : ¬ (tb s).head? = some 45 := by
    intro h9
    rcases Nat.eq_zero_or_pos s.size with h1 | h1
    · have hl := tb_len s
      rw [h1] at hl
      rw [List.eq_nil_of_length_eq_zero hl] at h9; cases h9
    · obtain ⟨r, hr⟩ := head_tb h1 rfl
      rw [hr] at h9
      have h2 : (s[0]?).getD 0 = 45 := by simpa using h9
      rw [h2] at h
      rcases h with h | h
      · omega
      · exact h rfl
  refine ⟨?_, decide_eq_false hh⟩
  unfold nuD
  rw [if_neg hh, ofL_tb]
theorem head48 {d : ByteArray} (h : 0 < d.size) : (tb d).head? = some 48 ↔ (((d[0]?).getD 0).toNat : Int) = 48 := by
  obtain ⟨r, hr⟩ := head_tb h rfl
  rw [hr]
  simp only [List.head?_cons, Option.some.injEq]
  constructor
  · intro h; rw [h]; rfl
  · intro h; exact UInt8.toNat_inj.1 (by show _ = 48; omega)
theorem is48 (s : ByteArray) : (!(s.toList == (⟨#[48]⟩ : ByteArray).toList)) = !decide (tb s = [48]) := by
  congr 1
  rw [Bool.eq_iff_iff, eqL_iff, decide_eq_true_eq]
  constructor
  · rintro rfl; rfl
  · intro h; exact tb_inj h
theorem nu_none {l : List UInt8} (hb : nuBad l = false) {i : Nat} {c : UInt8} (h : (nuD l)[i]? = some c) (hc : ¬ (48 ≤ c.toNat ∧ c.toNat ≤ 57)) : nuR l = (0, false) := by
  unfold nuR
  rw [if_neg (by simp [hb])]
  cases hv : Lib.decFrom 0 (nuD l) with
  | none => rfl
  | some n => exact absurd ((tdecFrom_all _ 0).1 ⟨n, hv⟩ c (List.mem_of_getElem? h)) hc
theorem nu_some {l : List UInt8} (hb : nuBad l = false) {n : Nat} (h : Lib.decFrom 0 (nuD l) = some n) : nuR l = nuV l n := by
  unfold nuR
  rw [if_neg (by simp [hb]), h]
theorem nu_bad {l : List UInt8} (hb : nuBad l = true) : nuR l = (0, false) := if_pos hb
theorem nuV_neg {l : List UInt8} {n : Nat} (h : decide (l.head? = some 45) = true) : nuV l n = (IntKind.i64.wrap (IntKind.i64.wrap (0 - IntKind.i64.wrap (IntKind.u64.wrap ((n : Int) - 1))) - 1), decide ((n : Int) ≤ 9223372036854775808)) := if_pos (of_decide_eq_true h)
theorem nuV_pos {l : List UInt8} {n : Nat} (h : decide (l.head? = some 45) = false) : nuV l n = (IntKind.i64.wrap (n : Int), decide ((n : Int) ≤ 9223372036854775807)) := if_neg (of_decide_eq_false h)
theorem dec_step {d : ByteArray} {i n : Nat} (hi : i < d.size) (h : Lib.decFrom 0 ((tb d).take i) = some n) {c : UInt8} (hc : (d[i]?).getD 0 = c) (h1 : 48 ≤ c.toNat) (h2 : c.toNat ≤ 57) : Lib.decFrom 0 ((tb d).take (i + 1)) = some (n * 10 + (c.toNat - 48)) := by
  have h3 := byte_tb hi
  rw [hc] at h3
  exact Lib.decFrom_take (tb d) i 0 n c _ h h3 (by unfold Lib.digitVal; rw [if_pos ⟨h1, h2⟩])
theorem dec_bnd {l : List UInt8} {n : Nat} (h : Lib.decFrom 0 l = some n) (hl : l.length ≤ 19) : n < 10000000000000000000 := by
  have h1 := Lib.decFrom_lt l 0 n h
  have h2 : 10 ^ l.length ≤ 10 ^ 19 := Nat.pow_le_pow_right (by decide) hl
  omega
theorem RNum_pure (s : ByteArray) (hs : s.size ≤ 1048576) : APure Tryd.prog 30 [.v (.string s)] (.tup [.v (.int .i64 (nuR (tb s)).1), .v (.bool (nuR (tb s)).2)]) := by
  refine APure.mkL (.cons (.v _) .nil) ((.tup (.cons (.v _) (.cons (.v _) .nil)))) ?_
  refine ACalls_intro Tryd.func30 (by kernel_rfl) rfl (by rw [Tryd.ntmps30]; simp) (fun hm => ?_)
  simp only [Tryd.ntmps30, Tryd.results30, List.length_cons, List.length_nil, Nat.reduceAdd, Nat.reduceSub, List.replicate_succ, List.replicate_zero, List.cons_append, List.nil_append]
  refine AWp_seqK fun Y0 y0 => ?_
  refine AWp_region ?_
  refine aops_chunk 1 fun Q0 q0 => ?_
  simp only [↓bO, go_sem, seval]
  refine q0 _ ?_
  clear q0 Q0
  simp only [go_sem]
  simp only [↓bO, go_sem, seval]
  refine y0 _ ?_
  try clear y0 Y0
  refine AWp_seqK fun Y0 y0 => ?_
  refine AWp_region ?_
  iterate 2 (refine aops_chunk 1 fun Q0 q0 => ?_; simp only [↓bO, go_sem, seval]; refine q0 _ ?_; clear q0 Q0; simp only [go_sem])
  simp only [↓bO, go_sem, seval]
  refine y0 _ ?_
  try clear y0 Y0
  refine AWp_joinE (σ := ByteArray × Bool) (mB 71 49) (fun j => [(4, .v (.string j.1)), (5, .v (.bool j.2))]) (fun j => []) (fun j => s.size ≤ 1048576 ∧ j = (ofL (nuD (tb s)), decide ((tb s).head? = some 45))) ?_ (fun j hj0 => ?_)
  ·
   refine AWp_seqK fun Y0 y0 => ?_
   refine AWp_region ?_
   iterate 3 (refine aops_chunk 1 fun Q0 q0 => ?_; simp only [↓bO, go_sem, seval]; refine q0 _ ?_; clear q0 Q0; simp only [go_sem])
   refine aops_case 11 rfl (fun hc11 => ?_) (fun hc11 => ?_)
   ·
    simp only [List.set_cons_zero, List.set_cons_succ]
    have hz : 0 < s.size := size_pos (by have h9 := hc11; simpa using h9)
    have hl0 : ((0 : Int) < (s.size : Int)) = True := eq_true (by omega)
    iterate 3 (refine aops_chunk 1 fun Q0 q0 => ?_; simp only [↓bO, go_sem, seval, hz, hl0]; refine q0 _ ?_; clear q0 Q0; simp only [go_sem])
    simp only [↓bO, go_sem, seval, hz, hl0]
    refine y0 _ ?_
    try clear y0 Y0
    refine AWp_cond rfl (fun hb15 => ?_) (fun hb15 => ?_)
    ·
     have hd := nu_minus hz (by have h9 := hb15; simpa using h9)
     have hl1 : ((1 : Int) ≤ (s.size : Int)) = True := eq_true (by omega)
     refine AWp_region ?_
     iterate 3 (refine aops_chunk 1 fun Q0 q0 => ?_; simp only [↓bO, go_sem, seval, hz, hl0, hl1]; refine q0 _ ?_; clear q0 Q0; simp only [go_sem])
     simp only [↓bO, go_sem, seval, hz, hl0, hl1]
     try simp only [maskL, setsL, putsO, putO, mB, List.set_cons_zero, List.set_cons_succ, seval]
     refine ⟨(ofL (nuD (tb s)), decide ((tb s).head? = some 45)), ⟨hs, rfl⟩, ?_⟩
     simp only [hd.1, hd.2]
     exact Weak.mk (by simp only [go_sem, Le.refl, Le.any]) (fun _ _ h => h) rfl rfl
    ·
     have hd := nu_plus (s := s) (by first | exact .inl hz0 | exact .inr (by have h9 := hb15; simpa using h9))
     refine AWp_skip ?_
     try simp only [thenQ, blockQ, noGotoQ]
     try simp only [maskL, setsL, putsO, putO, mB, List.set_cons_zero, List.set_cons_succ, seval]
     refine ⟨(ofL (nuD (tb s)), decide ((tb s).head? = some 45)), ⟨hs, rfl⟩, ?_⟩
     simp only [hd.1, hd.2]
     exact Weak.mk (by simp only [go_sem, Le.refl, Le.any]) (fun _ _ h => h) rfl rfl
   ·
    simp only [List.set_cons_zero, List.set_cons_succ]
    have hz0 : s.size = 0 := size_zero (by have h9 := hc11; simpa using h9)
    have hd := nu_plus (s := s) (.inl hz0)
    iterate 3 (refine aops_chunk 1 fun Q0 q0 => ?_; simp only [↓bO, go_sem, seval]; refine q0 _ ?_; clear q0 Q0; simp only [go_sem])
    simp only [↓bO, go_sem, seval]
    refine y0 _ ?_
    try clear y0 Y0
    refine AWp_cond (b := false) (by first | exact rfl | exact congrArg (fun b => AV.v (.bool b)) hb15) (fun h => (by cases h)) (fun _ => ?_)
    refine AWp_skip ?_
    try simp only [thenQ, blockQ, noGotoQ]
    try simp only [maskL, setsL, putsO, putO, mB, List.set_cons_zero, List.set_cons_succ, seval]
    refine ⟨(ofL (nuD (tb s)), decide ((tb s).head? = some 45)), ⟨hs, rfl⟩, ?_⟩
    simp only [hd.1, hd.2]
    exact Weak.mk (by simp only [go_sem, Le.refl, Le.any]) (fun _ _ h => h) rfl rfl
  simp only [maskL, setsL, putsO, putO, mB, List.set_cons_zero, List.set_cons_succ, seval]
  obtain ⟨d, m⟩ := j
  have hj1 : d = ofL (nuD (tb s)) := congrArg Prod.fst hj0.2
  have hj2 : decide ((tb s).head? = some 45) = m := (congrArg Prod.snd hj0.2).symm
  clear hj0
  simp only
  have htd : nuD (tb s) = tb d := by rw [hj1, tb_ofL]
  have hlen := tb_len d
  have hds : d.size ≤ s.size := by (rw [← hlen, ← htd, ← tb_len s]; unfold nuD; split <;> simp)
  have h48 := head48 (d := d)
  have his := is48 s
  refine AWp_seqK fun Y0 y0 => ?_
  refine AWp_joinM (mB 71 17179869232) ([(34, .v (.bool (nuBad (tb s))))]) ([]) ?_ ?_
  ·
   refine AWp_region ?_
   iterate 4 (refine aops_chunk 1 fun Q0 q0 => ?_; simp only [↓bO, go_sem, seval]; refine q0 _ ?_; clear q0 Q0; simp only [go_sem])
   refine aops_case 21 rfl (fun hc21 => ?_) (fun hc21 => ?_)
   ·
    simp only [List.set_cons_zero, List.set_cons_succ]
    iterate 12 (refine aops_chunk 1 fun Q0 q0 => ?_; simp only [↓bO, go_sem, seval]; refine q0 _ ?_; clear q0 Q0; simp only [go_sem])
    simp only [↓bO, go_sem, seval]
    try simp only [maskL, setsL, putsO, putO, mB, List.set_cons_zero, List.set_cons_succ, seval]
    refine Weak.mk ?_ (fun _ _ h => h) rfl rfl
    simp only [go_sem, Le.refl, Le.any]
    all_goals (refine Le.of_eq (congrArg (fun b => AV.v (.bool b)) ?_); (unfold nuBad; rw [htd, hlen]; grind))
   ·
    simp only [List.set_cons_zero, List.set_cons_succ]
    have hz1 : 0 < d.size := (by have h9 := hc21; simp at h9; omega)
    have hl2 : ((0 : Int) < (d.size : Int)) = True := eq_true (by omega)
    have h48 := h48 hz1
    iterate 5 (refine aops_chunk 1 fun Q0 q0 => ?_; simp only [↓bO, go_sem, seval, hz1, hl2]; refine q0 _ ?_; clear q0 Q0; simp only [go_sem])
    refine aops_case 26 rfl (fun hc26 => ?_) (fun hc26 => ?_)
    ·
     simp only [List.set_cons_zero, List.set_cons_succ]
     iterate 7 (refine aops_chunk 1 fun Q0 q0 => ?_; simp only [↓bO, go_sem, seval, hz1, hl2]; refine q0 _ ?_; clear q0 Q0; simp only [go_sem])
     simp only [↓bO, go_sem, seval, hz1, hl2]
     try simp only [maskL, setsL, putsO, putO, mB, List.set_cons_zero, List.set_cons_succ, seval]
     refine Weak.mk ?_ (fun _ _ h => h) rfl rfl
     simp only [go_sem, Le.refl, Le.any]
     all_goals (refine Le.of_eq (congrArg (fun b => AV.v (.bool b)) ?_); (unfold nuBad; rw [htd, hlen]; grind))
    ·
     simp only [List.set_cons_zero, List.set_cons_succ]
     iterate 4 (refine aops_chunk 1 fun Q0 q0 => ?_; simp only [↓bO, go_sem, seval, hz1, hl2]; refine q0 _ ?_; clear q0 Q0; simp only [go_sem])
     refine aops_case 30 rfl (fun hc30 => ?_) (fun hc30 => ?_)
     ·
      simp only [List.set_cons_zero, List.set_cons_succ]
      iterate 3 (refine aops_chunk 1 fun Q0 q0 => ?_; simp only [↓bO, go_sem, seval, hz1, hl2]; refine q0 _ ?_; clear q0 Q0; simp only [go_sem])
      simp only [↓bO, go_sem, seval, hz1, hl2]
      try simp only [maskL, setsL, putsO, putO, mB, List.set_cons_zero, List.set_cons_succ, seval]
      refine Weak.mk ?_ (fun _ _ h => h) rfl rfl
      simp only [go_sem, Le.refl, Le.any]
      all_goals (refine Le.of_eq (congrArg (fun b => AV.v (.bool b)) ?_); (unfold nuBad; rw [htd, hlen]; grind))
     ·
      simp only [List.set_cons_zero, List.set_cons_succ]
      iterate 3 (refine aops_chunk 1 fun Q0 q0 => ?_; simp only [↓bO, go_sem, seval, hz1, hl2]; refine q0 _ ?_; clear q0 Q0; simp only [go_sem])
      simp only [↓bO, go_sem, seval, hz1, hl2]
      try simp only [maskL, setsL, putsO, putO, mB, List.set_cons_zero, List.set_cons_succ, seval]
      refine Weak.mk ?_ (fun _ _ h => h) rfl rfl
      simp only [go_sem, Le.refl, Le.any]
      all_goals (refine Le.of_eq (congrArg (fun b => AV.v (.bool b)) ?_); (unfold nuBad; rw [htd, hlen]; grind))
  simp only [maskL, setsL, putsO, putO, mB, List.set_cons_zero, List.set_cons_succ, seval]
  refine AWp_cond rfl (fun hb34 => ?_) (fun hb34 => ?_)
  ·
   have hbad : nuBad (tb s) = true := hb34
   refine AWp_seqK fun Y1 y1 => ?_
   refine AWp_region ?_
   refine aops_chunk 1 fun Q0 q0 => ?_
   simp only [↓bO, go_sem, seval]
   refine q0 _ ?_
   clear q0 Q0
   simp only [go_sem]
   simp only [↓bO, go_sem, seval]
   refine y1 _ ?_
   try clear y1 Y1
   refine AWp_ret ?_
   try simp only [thenQ, blockQ, noGotoQ, retQ, aRes, tupOf, bS, bA]
   rw [nu_bad hbad]
   exact Le.refl _
  ·
   have hbad : nuBad (tb s) = false := hb34
   have hsz : d.size ≤ 19 := by (have h9 := hbad; unfold nuBad at h9; rw [htd, hlen] at h9; simp at h9; omega)
   refine AWp_skip ?_
   try simp only [thenQ, blockQ, noGotoQ]
   refine y0 _ ?_
   try clear y0 Y0
   refine AWp_seqK fun Y0 y0 => ?_
   refine AWp_region ?_
   simp only [↓bO, go_sem, seval]
   refine y0 _ ?_
   try clear y0 Y0
   refine AWp_seqK fun Y0 y0 => ?_
   refine AWp_seqK fun Y1 y1 => ?_
   refine AWp_region ?_
   simp only [↓bO, go_sem, seval]
   refine y1 _ ?_
   try clear y1 Y1
   refine AWp_block ?_
   refine AWp_loopM (σ := Nat × Nat) (mB 71 240) (fun w => w.1 ≤ d.size ∧ Lib.decFrom 0 ((tb d).take w.1) = some w.2) (fun w => [(6, .v (.int .u64 (w.2 : Int))), (7, .v (.int .i64 (w.1 : Int)))]) (fun w => []) (fun w => d.size - w.1) (0, 0) (⟨Nat.zero_le _, rfl⟩) ?_ (fun w hw => ?_)
   ·
    try simp only [maskL, setsL, putsO, putO, mB, List.set_cons_zero, List.set_cons_succ, seval, Int.natCast_zero]
    exact Weak.mk (by simp only [go_sem, Le.refl, Le.any, Le.slNil, Int.natCast_add, Int.cast_ofNat_Int, Int.natCast_one]) (fun _ _ h => h) rfl rfl
   simp only [maskL, setsL, putsO, putO, mB, List.set_cons_zero, List.set_cons_succ, seval]
   have hwi := hw.1
   have hw0 : IntKind.i64.wrap ((w.1 : Int) + 1) = ((w.1 + 1 : Nat) : Int) := by (rw [wrap_in (by omega) (by omega)]; omega)
   refine AWp_seqK fun Y1 y1 => ?_
   refine AWp_seqK fun Y2 y2 => ?_
   refine AWp_region ?_
   iterate 3 (refine aops_chunk 1 fun Q0 q0 => ?_; simp only [↓bO, go_sem, seval, hw0]; refine q0 _ ?_; clear q0 Q0; simp only [go_sem])
   simp only [↓bO, go_sem, seval, hw0]
   refine y2 _ ?_
   try clear y2 Y2
   refine AWp_cond rfl (fun hb38 => ?_) (fun hb38 => ?_)
   ·
    have hlt : w.1 < d.size := (by have h9 := hb38; simpa using h9)
    obtain ⟨c, hc⟩ : ∃ c, (d[w.1]?).getD 0 = c := ⟨_, rfl⟩
    have hcc := byte_tb hlt
    rw [hc] at hcc
    refine AWp_skip ?_
    try simp only [thenQ, blockQ, noGotoQ]
    refine y1 _ ?_
    try clear y1 Y1
    refine AWp_seqK fun Y1 y1 => ?_
    refine AWp_block ?_
    refine AWp_seqK fun Y2 y2 => ?_
    refine AWp_seqK fun Y3 y3 => ?_
    refine AWp_region ?_
    iterate 5 (refine aops_chunk 1 fun Q0 q0 => ?_; simp only [↓bO, go_sem, seval, hw0, hlt, hc]; refine q0 _ ?_; clear q0 Q0; simp only [go_sem])
    refine aops_case 45 rfl (fun hc45 => ?_) (fun hc45 => ?_)
    ·
     simp only [List.set_cons_zero, List.set_cons_succ]
     have h45 : (c.toNat : Int) < 48 := (by have h9 := hc45; simpa using h9)
     have hnd : ¬ (48 ≤ c.toNat ∧ c.toNat ≤ 57) := by omega
     iterate 4 (refine aops_chunk 1 fun Q0 q0 => ?_; simp only [↓bO, go_sem, seval, hw0, hlt, hc]; refine q0 _ ?_; clear q0 Q0; simp only [go_sem])
     simp only [↓bO, go_sem, seval, hw0, hlt, hc]
     refine y3 _ ?_
     try clear y3 Y3
     refine AWp_cond (b := true) (by first | exact rfl | exact congrArg (fun b => AV.v (.bool b)) hb50) (fun _ => ?_) (fun h => (by cases h))
     refine AWp_seqK fun Y3 y3 => ?_
     refine AWp_region ?_
     refine aops_chunk 1 fun Q0 q0 => ?_
     simp only [↓bO, go_sem, seval, hw0, hlt, hc]
     refine q0 _ ?_
     clear q0 Q0
     simp only [go_sem]
     simp only [↓bO, go_sem, seval, hw0, hlt, hc]
     refine y3 _ ?_
     try clear y3 Y3
     refine AWp_ret ?_
     try simp only [thenQ, blockQ, noGotoQ, retQ, aRes, tupOf, bS, bA]
     rw [nu_none hbad (i := w.1) (c := c) (by rw [htd]; exact hcc) hnd]
     exact Le.refl _
    ·
     simp only [List.set_cons_zero, List.set_cons_succ]
     have h45 : ¬ (c.toNat : Int) < 48 := (by have h9 := hc45; simpa using h9)
     iterate 4 (refine aops_chunk 1 fun Q0 q0 => ?_; simp only [↓bO, go_sem, seval, hw0, hlt, hc]; refine q0 _ ?_; clear q0 Q0; simp only [go_sem])
     simp only [↓bO, go_sem, seval, hw0, hlt, hc]
     refine y3 _ ?_
     try clear y3 Y3
     refine AWp_cond rfl (fun hb50 => ?_) (fun hb50 => ?_)
     ·
      have hnd : ¬ (48 ≤ c.toNat ∧ c.toNat ≤ 57) := by (first | omega | (have h9 := hb50; simp at h9; omega))
      refine AWp_seqK fun Y3 y3 => ?_
      refine AWp_region ?_
      refine aops_chunk 1 fun Q0 q0 => ?_
      simp only [↓bO, go_sem, seval, hw0, hlt, hc]
      refine q0 _ ?_
      clear q0 Q0
      simp only [go_sem]
      simp only [↓bO, go_sem, seval, hw0, hlt, hc]
      refine y3 _ ?_
      try clear y3 Y3
      refine AWp_ret ?_
      try simp only [thenQ, blockQ, noGotoQ, retQ, aRes, tupOf, bS, bA]
      rw [nu_none hbad (i := w.1) (c := c) (by rw [htd]; exact hcc) hnd]
      exact Le.refl _
     ·
      have h57 : ¬ (c.toNat : Int) > 57 := (by have h9 := hb50; simpa using h9)
      have hst := dec_step hlt hw.2 hc (by omega) (by omega)
      have hbn := dec_bnd hst (by rw [List.length_take]; omega)
      have hw1 : IntKind.u64.wrap (10 * (w.2 : Int)) = ((10 * w.2 : Nat) : Int) := by (rw [wrapU (by omega) (by omega)]; omega)
      have hw2 : IntKind.u8.wrap ((c.toNat : Int) - 48) = ((c.toNat - 48 : Nat) : Int) := by (rw [IntKind.wrap_u8]; omega)
      have hw3 : IntKind.u64.wrap ((c.toNat - 48 : Nat) : Int) = ((c.toNat - 48 : Nat) : Int) := wrapU (by omega) (by omega)
      have hw4 : IntKind.u64.wrap (((10 * w.2 : Nat) : Int) + ((c.toNat - 48 : Nat) : Int)) = ((w.2 * 10 + (c.toNat - 48) : Nat) : Int) := by (rw [wrapU (by omega) (by omega)]; omega)
      refine AWp_skip ?_
      try simp only [thenQ, blockQ, noGotoQ]
      refine y2 _ ?_
      try clear y2 Y2
      refine AWp_region ?_
      iterate 8 (refine aops_chunk 1 fun Q0 q0 => ?_; simp only [↓bO, go_sem, seval, hw0, hlt, hc, hw1, hw2, hw3, hw4]; refine q0 _ ?_; clear q0 Q0; simp only [go_sem])
      simp only [↓bO, go_sem, seval, hw0, hlt, hc, hw1, hw2, hw3, hw4]
      refine y1 _ ?_
      try clear y1 Y1
      refine AWp_region ?_
      iterate 2 (refine aops_chunk 1 fun Q0 q0 => ?_; simp only [↓bO, go_sem, seval, hw0, hlt, hc, hw1, hw2, hw3, hw4]; refine q0 _ ?_; clear q0 Q0; simp only [go_sem])
      simp only [↓bO, go_sem, seval, hw0, hlt, hc, hw1, hw2, hw3, hw4]
      refine ⟨(w.1 + 1, w.2 * 10 + (c.toNat - 48)), ⟨by simp only; omega, hst⟩, (by simp only; omega), ?_⟩
      try simp only [maskL, setsL, putsO, putO, mB, List.set_cons_zero, List.set_cons_succ, seval, hw0, hlt, hc, hw1, hw2, hw3, hw4]
      exact Weak.mk (by simp only [go_sem, Le.refl, Le.any, Le.slNil, Int.natCast_add, Int.cast_ofNat_Int, Int.natCast_one]) (fun _ _ h => h) rfl rfl
   ·
    have hge : ¬ w.1 < d.size := (by have h9 := hb38; simpa using h9)
    have hall : Lib.decFrom 0 (nuD (tb s)) = some w.2 := by (have h9 := hw.2; rw [List.take_of_length_le (by omega)] at h9; rw [htd]; exact h9)
    refine AWp_exit ?_
    simp only [thenQ, blockQ, noGotoQ, bA, Nat.reduceEqDiff, ↓reduceIte]
    refine y0 _ ?_
    try clear y0 Y0
    refine AWp_seqK fun Y0 y0 => ?_
    refine AWp_seqK fun Y1 y1 => ?_
    refine AWp_region ?_
    simp only [↓bO, go_sem, seval]
    refine y1 _ ?_
    try clear y1 Y1
    refine AWp_cond rfl (fun hb59 => ?_) (fun hb59 => ?_)
    ·
     obtain rfl : m = true := by simpa using hb59
     refine AWp_seqK fun Y1 y1 => ?_
     refine AWp_region ?_
     iterate 8 (refine aops_chunk 1 fun Q0 q0 => ?_; simp only [↓bO, go_sem, seval]; refine q0 _ ?_; clear q0 Q0; simp only [go_sem])
     simp only [↓bO, go_sem, seval]
     refine y1 _ ?_
     try clear y1 Y1
     refine AWp_ret ?_
     try simp only [thenQ, blockQ, noGotoQ, retQ, aRes, tupOf, bS, bA]
     rw [nu_some hbad hall, nuV_neg hj2]
     exact Le.refl _
    ·
     obtain rfl : m = false := by simpa using hb59
     refine AWp_skip ?_
     try simp only [thenQ, blockQ, noGotoQ]
     refine y0 _ ?_
     try clear y0 Y0
     refine AWp_seqK fun Y0 y0 => ?_
     refine AWp_region ?_
     iterate 5 (refine aops_chunk 1 fun Q0 q0 => ?_; simp only [↓bO, go_sem, seval]; refine q0 _ ?_; clear q0 Q0; simp only [go_sem])
     simp only [↓bO, go_sem, seval]
     refine y0 _ ?_
     try clear y0 Y0
     refine AWp_ret ?_
     try simp only [thenQ, blockQ, noGotoQ, retQ, aRes, tupOf, bS, bA]
     rw [nu_some hbad hall, nuV_pos hj2]
     exact Le.refl _
def wC (l : List UInt8) : List AV := [.v (.string (ofL l))]
theorem wC_eq (l : List UInt8) : wC l = [.v (.string (ofL l))] := rfl
theorem wC_data (l : List (List UInt8)) : Data (.sl 1 (l.map wC)) := .sl fun x hx => by
  obtain ⟨l, _, rfl⟩ := List.mem_map.1 hx
  exact .cons (.v _) .nil
structure WdS where
  out : List (List UInt8)
  at_ : Nat
  i : Nat
def WdS.ok (s : ByteArray) (m : Nat) (w : WdS) : Prop := wordsL m (tb s) = w.out ++ wordsL (m - w.out.length) ((tb s).drop w.at_) ∧ w.out.length ≤ m ∧ w.at_ ≤ w.i ∧ w.i ≤ s.size ∧ w.out.length ≤ w.i ∧
  (w.out.length < m → ∀ c ∈ ((tb s).drop w.at_).take (w.i - w.at_), c ≠ 32)
theorem WdS.start (s : ByteArray) (m : Nat) : WdS.ok s m ⟨[], 0, 0⟩ := ⟨by simp, by simp, by simp, by simp, by simp, fun _ c hc => by simp at hc⟩
theorem WdS.split {s : ByteArray} {w : WdS} (ha : w.at_ ≤ w.i) (hi : w.i < s.size) {c : UInt8} (hc : (s[w.i]?).getD 0 = c) : (tb s).drop w.at_ = ((tb s).drop w.at_).take (w.i - w.at_) ++ c :: (tb s).drop (w.i + 1) := by
  have h1 := byte_tb hi
  rw [hc] at h1
  obtain ⟨h2, h3⟩ := List.getElem?_eq_some_iff.1 h1
  have h4 : (tb s).drop w.i = c :: (tb s).drop (w.i + 1) := by rw [List.drop_eq_getElem_cons h2, h3]
  conv => lhs; rw [← List.take_append_drop (w.i - w.at_) ((tb s).drop w.at_)]
  rw [List.drop_drop, show w.at_ + (w.i - w.at_) = w.i by omega, h4]
theorem WdS.ok.word {s : ByteArray} {m : Nat} {w : WdS} (h : w.ok s m) (hi : w.i < s.size) {c : UInt8} (hc : (s[w.i]?).getD 0 = c) (h32 : c = 32) (hm : w.out.length < m) : WdS.ok s m ⟨w.out ++ [((tb s).drop w.at_).take (w.i - w.at_)], w.i + 1, w.i + 1⟩ := by
  obtain ⟨h1, h2, h3, h4, h5, h6⟩ := h
  have hsp := WdS.split h3 hi hc
  refine ⟨?_, by simp; omega, by simp, by simp only; omega, by simp; omega, fun _ x hx => by simp at hx⟩
  obtain ⟨k, hk⟩ : ∃ k, m - w.out.length = k + 1 := ⟨m - w.out.length - 1, by omega⟩
  rw [h1, hk]
  conv => lhs; rw [hsp, h32, wordsL_at (h6 hm)]
  simp only [List.length_append, List.length_cons, List.length_nil, List.append_assoc, List.cons_append, List.nil_append]
  rw [show m - (w.out.length + (0 + 1)) = k by omega]
theorem WdS.ok.skip {s : ByteArray} {m : Nat} {w : WdS} (h : w.ok s m) (hi : w.i < s.size) {c : UInt8} (hc : (s[w.i]?).getD 0 = c) (hn : c ≠ 32 ∨ ¬ w.out.length < m) : WdS.ok s m ⟨w.out, w.at_, w.i + 1⟩ := by
  obtain ⟨h1, h2, h3, h4, h5, h6⟩ := h
  refine ⟨h1, h2, by simp only; omega, by simp only; omega, by simp only; omega, fun hm x hx => ?_⟩
  simp only at hm hx
  have h7 := byte_tb hi
  rw [hc] at h7
  rw [show w.i + 1 - w.at_ = (w.i - w.at_) + 1 by omega, List.take_add_one, List.getElem?_drop, show w.at_ + (w.i - w.at_) = w.i by omega, h7] at hx
  rcases List.mem_append.1 hx with hx | hx
  · exact h6 hm x hx
  · have hx : x = c := by simpa using hx
    subst hx
    rcases hn with hn | hn
    · exact hn
    · exact absurd hm hn
theorem WdS.ok.fin {s : ByteArray} {m : Nat} {w : WdS} (h : w.ok s m) (hi : ¬ w.i < s.size) : wordsL m (tb s) = w.out ++ [(tb s).drop w.at_] := by
  obtain ⟨h1, h2, h3, h4, h5, h6⟩ := h
  rw [h1]
  congr 1
  rcases Nat.lt_or_ge w.out.length m with hm | hm
  · refine wordsL_no fun c hc => h6 hm c ?_
    rw [List.take_of_length_le (by rw [List.length_drop, tb_len]; omega)]; exact hc
  · rw [show m - w.out.length = 0 by omega]; rfl
theorem RWd_pure (s : ByteArray) (m : Nat) (hs : s.size ≤ 1048576) (hm0 : m ≤ 1000) : APure Tryd.prog 29 [.v (.string s), .v (.int .i64 ((m + 1 : Nat) : Int))] (.sl 1 ((wordsL m (tb s)).map wC)) := by
  refine APure.mkL (.cons (.v _) (.cons (.v _) .nil)) ((wC_data _)) ?_
  refine ACalls_intro Tryd.func29 (by kernel_rfl) rfl (by rw [Tryd.ntmps29]; simp) (fun hm => ?_)
  simp only [Tryd.ntmps29, Tryd.results29, List.length_cons, List.length_nil, Nat.reduceAdd, Nat.reduceSub, List.replicate_succ, List.replicate_zero, List.cons_append, List.nil_append]
  iterate 3 (refine AWp_seqK fun Y0 y0 => ?_; refine AWp_region ?_; simp only [↓bO, go_sem, seval]; refine y0 _ ?_; (try clear y0 Y0))
  refine AWp_seqK fun Y0 y0 => ?_
  refine AWp_seqK fun Y1 y1 => ?_
  refine AWp_region ?_
  simp only [↓bO, go_sem, seval]
  refine y1 _ ?_
  try clear y1 Y1
  refine AWp_block ?_
  refine AWp_weak (Weak.tokSlot 5 9 1 rfl) ?_
  simp only [List.set_cons_zero, List.set_cons_succ]
  refine AWp_loopM (σ := WdS) (mB 40 227) (fun w => w.ok s m) (fun w => [(5, .osl 0 1 (w.out.map wC)), (6, .v (.int .i64 (w.at_ : Int))), (7, .v (.int .i64 (w.i : Int)))]) (fun w => [(0, .tok 9 1 w.out.length)]) (fun w => s.size - w.i) ⟨[], 0, 0⟩ (WdS.start s m) ?_ (fun w hw => ?_)
  ·
   try simp only [maskL, setsL, putsO, putO, mB, List.set_cons_zero, List.set_cons_succ, seval, bL, Int.natCast_zero]
   exact Weak.mk (by simp only [go_sem, Le.refl, Le.any, Le.slNil, Int.natCast_add, Int.cast_ofNat_Int, Int.natCast_one]) (fun _ _ h => h) rfl rfl
  simp only [maskL, setsL, putsO, putO, mB, List.set_cons_zero, List.set_cons_succ, seval]
  have hwi := hw.2.2.2.1
  have hwa := hw.2.2.1
  have hwo := hw.2.2.2.2.1
  have hw0 : IntKind.i64.wrap ((w.i : Int) + 1) = ((w.i + 1 : Nat) : Int) := by (rw [wrap_in (by omega) (by omega)]; omega)
  have hb1 : (w.out.length + 1) * 16 ≤ 140737488355328 := by omega
  have hb4 : w.out.length + 1 ≤ maxLen := by (simp only [maxLen]; omega)
  refine AWp_seqK fun Y1 y1 => ?_
  refine AWp_seqK fun Y2 y2 => ?_
  refine AWp_region ?_
  iterate 3 (refine aops_chunk 1 fun Q0 q0 => ?_; simp only [↓bO, go_sem, seval, hw0, hb1, hb4, List.map_append, List.length_append, wC_eq]; refine q0 _ ?_; clear q0 Q0; simp only [go_sem])
  simp only [↓bO, go_sem, seval, hw0, hb1, hb4, List.map_append, List.length_append, wC_eq]
  refine y2 _ ?_
  try clear y2 Y2
  refine AWp_cond rfl (fun hb11 => ?_) (fun hb11 => ?_)
  ·
   have hlt : w.i < s.size := (by have h9 := hb11; simpa using h9)
   obtain ⟨c, hc⟩ : ∃ c, (s[w.i]?).getD 0 = c := ⟨_, rfl⟩
   refine AWp_skip ?_
   try simp only [thenQ, blockQ, noGotoQ]
   refine y1 _ ?_
   try clear y1 Y1
   refine AWp_seqK fun Y1 y1 => ?_
   refine AWp_block ?_
   refine AWp_seqK fun Y2 y2 => ?_
   refine AWp_region ?_
   iterate 5 (refine aops_chunk 1 fun Q0 q0 => ?_; simp only [↓bO, go_sem, seval, hw0, hb1, hb4, List.map_append, List.length_append, wC_eq, hlt, hc]; refine q0 _ ?_; clear q0 Q0; simp only [go_sem])
   refine aops_case 18 rfl (fun hc18 => ?_) (fun hc18 => ?_)
   ·
    simp only [List.set_cons_zero, List.set_cons_succ]
    have h32 : c = 32 := UInt8.toNat_inj.1 (by (have h9 := hc18; simp at h9; show c.toNat = 32; omega))
    have hw1 : IntKind.i64.wrap ((w.out.length : Int) + 1) = ((w.out.length + 1 : Nat) : Int) := by (rw [wrap_in (by omega) (by omega)]; omega)
    iterate 5 (refine aops_chunk 1 fun Q0 q0 => ?_; simp only [↓bO, go_sem, seval, hw0, hb1, hb4, List.map_append, List.length_append, wC_eq, hlt, hc, hw1]; refine q0 _ ?_; clear q0 Q0; simp only [go_sem])
    simp only [↓bO, go_sem, seval, hw0, hb1, hb4, List.map_append, List.length_append, wC_eq, hlt, hc, hw1]
    refine y2 _ ?_
    try clear y2 Y2
    refine AWp_cond rfl (fun hb24 => ?_) (fun hb24 => ?_)
    ·
     have hmm : w.out.length < m := (by have h9 := hb24; simp at h9; omega)
     have hP := hw.word hlt hc h32 hmm
     have hb2 : ((w.at_ : Int) ≤ (w.i : Int)) = True := eq_true (by omega)
     have hb3 : ((w.i : Int) ≤ (s.size : Int)) = True := eq_true (by omega)
     have hex := ex_tb s w.at_ w.i
     refine AWp_seqK fun Y2 y2 => ?_
     refine AWp_region ?_
     iterate 5 (refine aops_chunk 1 fun Q0 q0 => ?_; simp only [↓bO, go_sem, seval, hw0, hb1, hb4, List.map_append, List.length_append, wC_eq, hlt, hc, hw1, hb2, hb3, hex]; refine q0 _ ?_; clear q0 Q0; simp only [go_sem])
     refine aops_chunk 1 fun Q0 q0 => ?_
     simp only [↓bO, go_sem, seval, ↓bs1_1, ↓bs1_2, ↓bs1_3, ↓bs1_4, ↓bs1_5, ↓bs1_6, ↓bs1_7, ↓bs1_8, ↓bs1_9, ↓bs1_10, ↓bs1_11, ↓bs1_12, hw0, hb1, hb4, List.map_append, List.length_append, wC_eq, hlt, hc, hw1, hb2, hb3, hex]
     refine q0 _ ?_
     clear q0 Q0
     simp only [go_sem]
     refine aops_chunk 1 fun Q0 q0 => ?_
     simp only [↓bO, go_sem, seval, hw0, hb1, hb4, List.map_append, List.length_append, wC_eq, hlt, hc, hw1, hb2, hb3, hex]
     refine q0 _ ?_
     clear q0 Q0
     simp only [go_sem]
     simp only [↓bO, go_sem, seval, hw0, hb1, hb4, List.map_append, List.length_append, wC_eq, hlt, hc, hw1, hb2, hb3, hex]
     refine y2 _ ?_
     try clear y2 Y2
     refine AWp_region ?_
     iterate 2 (refine aops_chunk 1 fun Q0 q0 => ?_; simp only [↓bO, go_sem, seval, hw0, hb1, hb4, List.map_append, List.length_append, wC_eq, hlt, hc, hw1, hb2, hb3, hex]; refine q0 _ ?_; clear q0 Q0; simp only [go_sem])
     simp only [↓bO, go_sem, seval, hw0, hb1, hb4, List.map_append, List.length_append, wC_eq, hlt, hc, hw1, hb2, hb3, hex]
     refine y1 _ ?_
     try clear y1 Y1
     refine AWp_region ?_
     iterate 2 (refine aops_chunk 1 fun Q0 q0 => ?_; simp only [↓bO, go_sem, seval, hw0, hb1, hb4, List.map_append, List.length_append, wC_eq, hlt, hc, hw1, hb2, hb3, hex]; refine q0 _ ?_; clear q0 Q0; simp only [go_sem])
     simp only [↓bO, go_sem, seval, hw0, hb1, hb4, List.map_append, List.length_append, wC_eq, hlt, hc, hw1, hb2, hb3, hex]
     refine ⟨⟨w.out ++ [((tb s).drop w.at_).take (w.i - w.at_)], w.i + 1, w.i + 1⟩, hP, (by simp only; omega), ?_⟩
     try simp only [maskL, setsL, putsO, putO, mB, List.set_cons_zero, List.set_cons_succ, seval, hw0, hb1, hb4, List.map_append, bL, List.length_append, wC_eq, hlt, hc, hw1, hb2, hb3, hex]
     exact Weak.mk (by simp only [go_sem, Le.refl, Le.any, Le.slNil, Int.natCast_add, Int.cast_ofNat_Int, Int.natCast_one]) (fun _ _ h => h) rfl rfl
    ·
     have hP : WdS.ok s m ⟨w.out, w.at_, w.i + 1⟩ := by (first | exact hP | exact hw.skip hlt hc (.inr (by have h9 := hb24; simp at h9; omega)))
     refine AWp_skip ?_
     try simp only [thenQ, blockQ, noGotoQ]
     refine y1 _ ?_
     try clear y1 Y1
     refine AWp_region ?_
     iterate 2 (refine aops_chunk 1 fun Q0 q0 => ?_; simp only [↓bO, go_sem, seval, hw0, hb1, hb4, List.map_append, List.length_append, wC_eq, hlt, hc, hw1]; refine q0 _ ?_; clear q0 Q0; simp only [go_sem])
     simp only [↓bO, go_sem, seval, hw0, hb1, hb4, List.map_append, List.length_append, wC_eq, hlt, hc, hw1]
     refine ⟨⟨w.out, w.at_, w.i + 1⟩, hP, (by simp only; omega), ?_⟩
     try simp only [maskL, setsL, putsO, putO, mB, List.set_cons_zero, List.set_cons_succ, seval, hw0, hb1, hb4, List.map_append, bL, List.length_append, wC_eq, hlt, hc, hw1]
     exact Weak.mk (by simp only [go_sem, Le.refl, Le.any, Le.slNil, Int.natCast_add, Int.cast_ofNat_Int, Int.natCast_one]) (fun _ _ h => h) rfl rfl
   ·
    simp only [List.set_cons_zero, List.set_cons_succ]
    have h32 : c ≠ 32 := by (intro h8; have h9 := hc18; rw [h8] at h9; exact absurd h9 (by decide))
    have hP := hw.skip hlt hc (.inl h32)
    iterate 5 (refine aops_chunk 1 fun Q0 q0 => ?_; simp only [↓bO, go_sem, seval, hw0, hb1, hb4, List.map_append, List.length_append, wC_eq, hlt, hc]; refine q0 _ ?_; clear q0 Q0; simp only [go_sem])
    simp only [↓bO, go_sem, seval, hw0, hb1, hb4, List.map_append, List.length_append, wC_eq, hlt, hc]
    refine y2 _ ?_
    try clear y2 Y2
    refine AWp_cond (b := false) (by first | exact rfl | exact congrArg (fun b => AV.v (.bool b)) hb24) (fun h => (by cases h)) (fun _ => ?_)
    refine AWp_skip ?_
    try simp only [thenQ, blockQ, noGotoQ]
    refine y1 _ ?_
    try clear y1 Y1
    refine AWp_region ?_
    iterate 2 (refine aops_chunk 1 fun Q0 q0 => ?_; simp only [↓bO, go_sem, seval, hw0, hb1, hb4, List.map_append, List.length_append, wC_eq, hlt, hc]; refine q0 _ ?_; clear q0 Q0; simp only [go_sem])
    simp only [↓bO, go_sem, seval, hw0, hb1, hb4, List.map_append, List.length_append, wC_eq, hlt, hc]
    refine ⟨⟨w.out, w.at_, w.i + 1⟩, hP, (by simp only; omega), ?_⟩
    try simp only [maskL, setsL, putsO, putO, mB, List.set_cons_zero, List.set_cons_succ, seval, hw0, hb1, hb4, List.map_append, bL, List.length_append, wC_eq, hlt, hc]
    exact Weak.mk (by simp only [go_sem, Le.refl, Le.any, Le.slNil, Int.natCast_add, Int.cast_ofNat_Int, Int.natCast_one]) (fun _ _ h => h) rfl rfl
  ·
   have hge : ¬ w.i < s.size := (by have h9 := hb11; simpa using h9)
   have hfi := hw.fin hge
   have hb2 : ((w.at_ : Int) ≤ (s.size : Int)) = True := eq_true (by omega)
   have hex : s.extract w.at_ s.size = ofL ((tb s).drop w.at_) := by (rw [ex_tb, List.take_of_length_le (by rw [List.length_drop, tb_len]; omega)])
   refine AWp_exit ?_
   simp only [thenQ, blockQ, noGotoQ, bA, Nat.reduceEqDiff, ↓reduceIte]
   refine y0 _ ?_
   try clear y0 Y0
   refine AWp_seqK fun Y0 y0 => ?_
   refine AWp_region ?_
   iterate 4 (refine aops_chunk 1 fun Q0 q0 => ?_; simp only [↓bO, go_sem, seval, hb2, hex, hb1, hb4]; refine q0 _ ?_; clear q0 Q0; simp only [go_sem])
   refine aops_chunk 1 fun Q0 q0 => ?_
   simp only [↓bO, go_sem, seval, ↓bs1_1, ↓bs1_2, ↓bs1_3, ↓bs1_4, ↓bs1_5, ↓bs1_6, ↓bs1_7, ↓bs1_8, ↓bs1_9, ↓bs1_10, ↓bs1_11, ↓bs1_12, hb2, hex, hb1, hb4]
   refine q0 _ ?_
   clear q0 Q0
   simp only [go_sem]
   refine aops_chunk 1 fun Q0 q0 => ?_
   simp only [↓bO, go_sem, seval, hb2, hex, hb1, hb4]
   refine q0 _ ?_
   clear q0 Q0
   simp only [go_sem]
   simp only [↓bO, go_sem, seval, hb2, hex, hb1, hb4]
   refine y0 _ ?_
   try clear y0 Y0
   refine AWp_ret ?_
   try simp only [thenQ, blockQ, noGotoQ, retQ, aRes, tupOf, bS, bA]
   rw [hfi]
   simp only [List.map_append, List.map_cons, List.map_nil, wC_eq]
   exact Le.osl _ _ _
theorem quL_ge (l : List UInt8) : l.length ≤ (quL l).length := by
  have : ∀ l : List UInt8, l.length ≤ (l.flatMap qb).length := fun l => by
    induction l with
    | nil => simp
    | cons c l ih =>
      rw [List.flatMap_cons, List.length_append, List.length_cons]
      have : 1 ≤ (qb c).length := by unfold qb; split <;> simp
      omega
  have := this l
  unfold quL
  rw [List.length_cons, List.length_append, List.length_singleton]; omega
theorem unqS_size (s : ByteArray) : (unqS s).size ≤ s.size := by
  unfold unqS
  rw [ofL_size]
  cases h : unqL s.data.toList with
  | none => simp
  | some t =>
    have h1 := quL_unqL h
    have h2 := quL_ge t
    rw [h1] at h2
    have h3 : s.data.toList.length = s.size := Array.length_toList
    simp only [Option.getD_some]; omega
def awA : ActT := ⟨1, ⟨#[97]⟩, 0, 0, ⟨#[49, 32, 35, 10]⟩, 0, 0, 0, 0⟩
theorem awA_err : awA.err = 0 := by decide +kernel
theorem awA_line : (awA.line.toList == (⟨#[111, 112, 101, 110, 32, 97, 32, 34, 49, 32, 35, 92, 48, 97, 34]⟩ : ByteArray).toList) = true := by decide +kernel
theorem emp_eq : (ByteArray.empty) = ⟨#[]⟩ := rfl
theorem awake28_pure : APure Tryd.prog 9 [] (.v (.bool true)) := by
  refine APure.mkL (.nil) (.v _) ?_
  refine ACalls_intro Tryd.func9 (by kernel_rfl) rfl (by rw [Tryd.ntmps9]; simp) (fun hm => ?_)
  simp only [Tryd.ntmps9, Tryd.results9, List.length_cons, List.length_nil, Nat.reduceAdd, Nat.reduceSub, List.replicate_succ, List.replicate_zero, List.cons_append, List.nil_append]
  refine AWp_seqK fun Y0 y0 => ?_
  refine AWp_region ?_
  simp only [↓bO, go_sem, seval, lineA]
  refine y0 _ ?_
  try clear y0 Y0
  refine AWp_seqK fun Y0 y0 => ?_
  refine AWp_region ?_
  refine aops_chunk 1 fun Q0 q0 => ?_
  simp only [↓bO, go_sem, seval, lineA]
  refine q0 _ ?_
  clear q0 Q0
  simp only [go_sem]
  refine aops_chunk 1 fun Q0 q0 => ?_
  simp only [↓bO, go_sem, seval, lineA]
  refine APure.call (by have h9 := TLine_pure awA ⟨.zero, .zero, .zero, .zero, .zero, .zero⟩ (by decide) (by decide); exact h9) ?_
  try simp only [bS, bA, thenQ, blockQ, noGotoQ]
  refine q0 _ ?_
  clear q0 Q0
  simp only [go_sem]
  refine aops_chunk 1 fun Q0 q0 => ?_
  simp only [↓bO, go_sem, seval, lineA]
  iterate 2 (refine q0 _ ?_; clear q0 Q0; simp only [go_sem]; refine aops_chunk 1 fun Q0 q0 => ?_; simp only [↓bO, go_sem, seval, aExtract_tup, lineA])
  refine q0 _ ?_
  clear q0 Q0
  simp only [go_sem]
  refine aops_chunk 1 fun Q0 q0 => ?_
  simp only [↓bO, go_sem, seval, lineA]
  refine q0 _ ?_
  clear q0 Q0
  simp only [go_sem]
  simp only [↓bO, go_sem, seval, lineA]
  refine y0 _ ?_
  try clear y0 Y0
  refine AWp_seqK fun Y0 y0 => ?_
  refine AWp_region ?_
  iterate 3 (refine aops_chunk 1 fun Q0 q0 => ?_; simp only [↓bO, go_sem, seval, lineA]; refine q0 _ ?_; clear q0 Q0; simp only [go_sem])
  refine aops_case 10 rfl (fun hc10 => ?_) (fun hc10 => ?_)
  ·
   simp only [List.set_cons_zero, List.set_cons_succ]
   iterate 3 (refine aops_chunk 1 fun Q0 q0 => ?_; simp only [↓bO, go_sem, seval, lineA]; refine q0 _ ?_; clear q0 Q0; simp only [go_sem])
   simp only [↓bO, go_sem, seval, lineA]
   refine y0 _ ?_
   try clear y0 Y0
   refine AWp_ret ?_
   try simp only [thenQ, blockQ, noGotoQ, retQ, aRes, tupOf, bS, bA]
   refine Le.of_eq (congrArg (fun b => AV.v (.bool b)) ?_)
   exact awA_line
  ·
   simp only [List.set_cons_zero, List.set_cons_succ]
   rw [awA_err] at hc10; exact absurd hc10 (by decide)
end Go.Proofs.YtmepcmphcghbeaaDoor
