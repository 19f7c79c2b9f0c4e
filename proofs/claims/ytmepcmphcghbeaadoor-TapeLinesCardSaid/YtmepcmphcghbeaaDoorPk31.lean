/- Texts of the abstract walk, of the contracts and of the plain laws, packed (part 31 of 43): GlS TqL TaL Ls. Conditions: none. -/
import Derived.Test.YtmepcmphcghbeaaDoorPk30
import Derived.Lib.LaidTab
import Derived.Lib.AtoiTie
import Derived.Lib.ItoaLen
import Derived.Lib.AppendIntMem
import Derived.Lib.IndexMore
import Derived.Shelf.LaysM
import Derived.Shelf.LaysC
import Derived.Shelf.Small.Strs
import Derived.Shelf.Strings.SplitShaped
import Derived.Test.YtmepcmphcghbeaaDoorProg
namespace Go.Proofs.YtmepcmphcghbeaaDoor
open Go
theorem cells_of_strs {H : Type} {enc : TypeId × Value → H} {P : Program} {w : World} {base : Nat} {sp : Nat → Bool} {held : Bool} {fuel : Nat} {t e : TypeId} {n : Nat} {cs : List Value} {ls : List (List UInt8)} {p : List MemPlace}
    (ht : P.underlying t = some (.array n e)) (he : P.underlying e = some .string) (hce : P.cellsOf e = 1) (hct : P.cellsOf t = n)
    (h : DataW.trod enc P w base sp held fuel t cs = some (.agg (ls.map fun l => .lit (.string l)), p)) : cs = ls.map fun l => Value.string ⟨l.toArray⟩ := by
  cases fuel with
  | zero => simp [DataW.trod] at h
  | succ fuel =>
    simp only [DataW.trod, ht, hce, Nat.mul_one] at h
    split at h
    · rename_i hl
      obtain ⟨xs, hm, hx⟩ := Option.map_eq_some_iff.1 h
      have hxs : xs.map (·.1) = ls.map fun l => (DataW.lit (.string l) : DataW H) := by
        have := congrArg Prod.fst hx
        simpa using this
      have hxl : xs.length = n := by simpa using Lib.mapM_length hm
      have hzl : ls.length = n := by
        have := congrArg List.length hxs
        simp at this
        omega
      apply List.ext_getElem?
      intro i
      by_cases hi : i < n
      · obtain ⟨b, hb, hf⟩ := Lib.mapM_at hm i i (by simp [hi])
        obtain ⟨s, hc, rfl, _⟩ := DataW.trod_string he hf
        have h1 : cs[i]? = some (.string s) := by
          have := congrArg (·[0]?) hc
          simpa [List.getElem?_take, List.getElem?_drop] using this
        have h2 : (xs.map (·.1))[i]? = some (DataW.lit (.string s.data.toList) : DataW H) := by simp [hb]
        rw [hxs] at h2
        simp only [List.getElem?_map, Option.map_eq_some_iff, DataW.lit.injEq, Lit.string.injEq] at h2
        obtain ⟨l, hl9, hl8⟩ := h2
        simp [h1, hl9, hl8]
      · rw [List.getElem?_eq_none (by omega), List.getElem?_eq_none (by simp; omega)]
    · cases h
theorem chunks {α β : Type} {f : β → α} {m : Nat} : ∀ (lls : List (List β)) (cs : List α), cs.length = lls.length * m → (∀ (i : Nat) (ls : List β), lls[i]? = some ls → (cs.drop (i * m)).take m = ls.map f) → cs = lls.flatten.map f
  | [], cs, hl, _ => by simp at hl; simp [hl]
  | ls :: r, cs, hl, h => by
    have h0 := h 0 ls rfl
    have hr := chunks (m := m) r (cs.drop m) (by rw [List.length_drop, hl, List.length_cons, Nat.succ_mul]; omega) fun i l hi => by
      have := h (i + 1) l (by simpa using hi)
      rwa [show (i + 1) * m = m + i * m by rw [Nat.succ_mul]; omega, ← List.drop_drop] at this
    simp only [Nat.zero_mul, List.drop_zero] at h0
    rw [List.flatten_cons, List.map_append, ← h0, ← hr, List.take_append_drop]
theorem cells_of_strs2 {H : Type} {enc : TypeId × Value → H} {P : Program} {w : World} {base : Nat} {sp : Nat → Bool} {held : Bool} {fuel : Nat} {t e s : TypeId} {n m : Nat} {cs : List Value} {lls : List (List (List UInt8))} {p : List MemPlace}
    (ht : P.underlying t = some (.array n e)) (he : P.underlying e = some (.array m s)) (hs : P.underlying s = some .string) (hcs : P.cellsOf s = 1) (hce : P.cellsOf e = m) (hct : P.cellsOf t = n * m)
    (h : DataW.trod enc P w base sp held fuel t cs = some (.agg (lls.map fun ls => .agg (ls.map fun l => .lit (.string l))), p)) : cs = lls.flatten.map fun l => Value.string ⟨l.toArray⟩ := by
  cases fuel with
  | zero => simp [DataW.trod] at h
  | succ fuel =>
    simp only [DataW.trod, ht, hce] at h
    split at h
    · rename_i hl
      obtain ⟨xs, hm, hx⟩ := Option.map_eq_some_iff.1 h
      have hxs : xs.map (·.1) = lls.map fun ls => (DataW.agg (ls.map fun l => .lit (.string l)) : DataW H) := by
        have := congrArg Prod.fst hx
        simpa using this
      have hxl : xs.length = n := by simpa using Lib.mapM_length hm
      have hzl : lls.length = n := by
        have := congrArg List.length hxs
        simp at this
        omega
      refine chunks (m := m) lls cs (by rw [hzl]; omega) fun i ls hi => ?_
      have hin : i < n := by rw [← hzl]; exact (List.getElem?_eq_some_iff.1 hi).1
      obtain ⟨b, hb, hf⟩ := Lib.mapM_at hm i i (by simp [hin])
      have h2 : (xs.map (·.1))[i]? = some b.1 := by simp [hb]
      rw [hxs] at h2
      simp only [List.getElem?_map, hi, Option.map_some, Option.some.injEq] at h2
      obtain ⟨b1, b2⟩ := b
      simp only at h2
      subst h2
      exact cells_of_strs he hs hcs hce hf
    · cases h
def StrsIs (P : Program) (w : World) (name : String) (l : List ByteArray) : Prop := w.var? P name = some (l.map fun s => Value.string s).toArray
theorem strsIs_of_head {P : Program} {W : World} {name : String} {lls : List (List (List UInt8))} {l : List ByteArray} {rest : List (String × DataW Unit)} {g : Nat} {t e s : TypeId} {n m : Nat}
    (hg : P.globalNamed name = some g) (hty : (P.globals[g]?).map (·.type) = some t) (ht : P.underlying t = some (.array n e)) (he : P.underlying e = some (.array m s)) (hs : P.underlying s = some .string) (hcs : P.cellsOf s = 1) (hce : P.cellsOf e = m) (hct : P.cellsOf t = n * m)
    (hl : (lls.flatten.map fun l => (⟨l.toArray⟩ : ByteArray)) = l)
    (h : laidMet P ((name, .agg (lls.map fun ls => .agg (ls.map fun l => .lit (.string l)))) :: rest) W) : StrsIs P W name l := by
  obtain ⟨ps, ⟨g', t', cs, fuel, p, q, hg', ht', hvar, hd, _, _⟩, _⟩ := h
  obtain rfl := Option.some.inj (hg.symm.trans hg')
  obtain rfl := Option.some.inj (hty.symm.trans ht')
  unfold StrsIs
  have e9 := cells_of_strs2 ht he hs hcs hce hct hd
  rw [hvar, ← hl, List.map_map]
  show some cs = some (lls.flatten.map fun l => Value.string ⟨l.toArray⟩).toArray
  rw [← e9]
theorem gl_strs {P : Program} {W : World} {name : String} {l : List ByteArray} {g : Nat} {cs : List AV} (h : StrsIs P W name l) (hg : P.globalNamed name = some g) (hz : cs = l.map fun s => AV.v (.string s)) :
    (∀ o : Nat, ¬ (fun (_ _ : Nat) => False) g o) ∧ ∃ us t z, W.heap[g]? = some (.cells us t z) ∧ us.size = cs.length ∧ ∀ (i : Nat) (c : AV) (u : Value), cs[i]? = some c → us[i]? = some u → c.isV u := by
  unfold StrsIs World.var? at h
  rw [hg] at h
  simp only [Option.bind_some] at h
  split at h
  · rename_i us t z hh
    cases h
    refine ⟨fun _ h => h, _, t, z, hh, by simp [hz], fun i c u hc hu => ?_⟩
    subst hz
    simp only [List.getElem?_map, List.getElem?_toArray] at hc hu
    cases hx : l[i]? with
    | none => rw [hx] at hc; cases hc
    | some x => rw [hx] at hc hu; cases hc; cases hu; rfl
  · cases h
end Go.Proofs.YtmepcmphcghbeaaDoor
namespace Go.Proofs.YtmepcmphcghbeaaDoor
open Go
set_option linter.unusedVariables false
def u8C (c : UInt8) : List AV := [.v (.int .u8 (c.toNat : Int))]
def ofL (l : List UInt8) : ByteArray := ⟨l.toArray⟩
theorem ofL_data (l : List UInt8) : (ofL l).data.toList = l := rfl
theorem ofL_size (l : List UInt8) : (ofL l).size = l.length := by simp [ofL, ByteArray.size]
theorem ofL_back (s : ByteArray) : ofL s.data.toList = s := by cases s; rfl
theorem ofL_app (a b : List UInt8) : ofL a ++ ofL b = ofL (a ++ b) := ByteArray.ext (Array.ext' (by simp [ofL, ByteArray.data_append]))
theorem bytesOf_u8 : ∀ l : List UInt8, bytesOf (l.map u8C) = some (l.map fun c => (c.toNat : Int))
  | [] => rfl
  | c :: l => by
    show (bytesOf (l.map u8C)).map ((c.toNat : Int) :: ·) = _
    rw [bytesOf_u8 l]; rfl
theorem strOfNums_u8 (l : List UInt8) : strOfNums (l.map fun c => (c.toNat : Int)) = ofL l := by
  unfold strOfNums ofL
  congr 2
  rw [List.map_map]
  have : ((fun n : Int => UInt8.ofNat n.toNat) ∘ fun c : UInt8 => (c.toNat : Int)) = id := by
    funext c; simp
  rw [this, List.map_id]
theorem u8_nat {p : UInt8 → Prop} (h : ∀ n, n < 256 → p (UInt8.ofNat n)) (c : UInt8) : p c := by
  have := h c.toNat c.toNat_lt
  rwa [UInt8.ofNat_toNat] at this
def hx (n : Nat) : UInt8 := if n < 10 then UInt8.ofNat (48 + n) else UInt8.ofNat (87 + n)
def plainB (c : UInt8) : Bool := decide (32 ≤ c.toNat) && decide (c.toNat ≤ 126) && decide (c.toNat ≠ 34) && decide (c.toNat ≠ 92)
def qb (c : UInt8) : List UInt8 := if plainB c then [c] else [92, hx (c.toNat / 16), hx (c.toNat % 16)]
def quL (l : List UInt8) : List UInt8 := 34 :: (l.flatMap qb ++ [34])
def dg (c : UInt8) : Int := if 48 ≤ c.toNat ∧ c.toNat ≤ 57 then (c.toNat : Int) - 48 else if 97 ≤ c.toNat ∧ c.toNat ≤ 102 then (c.toNat : Int) - 87 else -1
def two (a b : Int) : UInt8 := UInt8.ofNat (16 * a.toNat + b.toNat)
theorem hx_dg : ∀ n, n < 16 → dg (hx n) = n := by decide
theorem dg_hx (a : UInt8) : 0 ≤ dg a → dg a < 16 ∧ hx (dg a).toNat = a := by
  refine u8_nat (p := fun a => 0 ≤ dg a → dg a < 16 ∧ hx (dg a).toNat = a) ?_ a
  set_option maxRecDepth 20000 in decide +kernel
theorem two_hx (c : UInt8) : two (dg (hx (c.toNat / 16))) (dg (hx (c.toNat % 16))) = c := by
  have := c.toNat_lt
  rw [hx_dg _ (by omega), hx_dg _ (Nat.mod_lt _ (by decide))]
  unfold two
  rw [Int.toNat_natCast, Int.toNat_natCast, Nat.div_add_mod, UInt8.ofNat_toNat]
theorem two_nat {a b : UInt8} (ha : 0 ≤ dg a) (hb : 0 ≤ dg b) : (two (dg a) (dg b)).toNat = 16 * (dg a).toNat + (dg b).toNat := by
  have h1 := (dg_hx a ha).1; have h2 := (dg_hx b hb).1
  unfold two
  rw [UInt8.toNat_ofNat']
  apply Nat.mod_eq_of_lt
  omega
def docD : List UInt8 → Option (List UInt8)
  | [] => some []
  | c :: r =>
    if c.toNat = 92 then
      match r with
      | a :: b :: r' => if dg a < 0 ∨ dg b < 0 then none else if plainB (two (dg a) (dg b)) then none else (docD r').map (two (dg a) (dg b) :: ·)
      | _ => none
    else if plainB c then (docD r).map (c :: ·) else none
def prgD : List UInt8 → Option (List UInt8)
  | [] => some []
  | c :: r =>
    if c.toNat = 92 then
      match r with
      | a :: b :: r' => (prgD r').map (two (max 0 (dg a)) (max 0 (dg b)) :: ·)
      | _ => none
    else (prgD r).map (c :: ·)
theorem plain_ne {c : UInt8} (h : plainB c = true) : c.toNat ≠ 92 := by
  unfold plainB at h
  simp only [Bool.and_eq_true, decide_eq_true_eq] at h
  exact h.2
theorem docD_sound : ∀ (n : Nat) (l t : List UInt8), l.length ≤ n → docD l = some t → t.flatMap qb = l
  | _, [], t, _, h => by cases h; rfl
  | n + 1, c :: r, t, hl, h => by
    have hl : r.length ≤ n := by simpa using hl
    unfold docD at h
    split at h
    · rename_i hc
      match r, hl, h with
      | [], _, h => cases h
      | [_], _, h => cases h
      | a :: b :: r', hl, h =>
        simp only at h
        split at h
        · cases h
        · rename_i hd
          split at h
          · cases h
          · rename_i hp
            obtain ⟨t', h1, rfl⟩ := Option.map_eq_some_iff.1 h
            have h2 := docD_sound n r' t' (by simp at hl; omega) h1
            have ha : 0 ≤ dg a := by omega
            have hb : 0 ≤ dg b := by omega
            have h3 := two_nat ha hb
            have h4 := dg_hx a ha
            have h5 := dg_hx b hb
            rw [List.flatMap_cons, h2]
            unfold qb
            rw [if_neg hp, h3]
            have e1 : (16 * (dg a).toNat + (dg b).toNat) / 16 = (dg a).toNat := by omega
            have e2 : (16 * (dg a).toNat + (dg b).toNat) % 16 = (dg b).toNat := by omega
            rw [e1, e2, h4.2, h5.2]
            have : c = 92 := UInt8.toNat_inj.1 hc
            rw [this]; rfl
    · split at h
      · rename_i hp
        obtain ⟨t', h1, rfl⟩ := Option.map_eq_some_iff.1 h
        rw [List.flatMap_cons, docD_sound n r t' hl h1]
        unfold qb
        rw [if_pos hp]; rfl
      · cases h
theorem docD_full : ∀ t : List UInt8, docD (t.flatMap qb) = some t
  | [] => rfl
  | c :: t => by
    rw [List.flatMap_cons]
    unfold qb
    split
    · rename_i hp
      show docD (c :: t.flatMap qb) = _
      unfold docD
      rw [if_neg (plain_ne hp), if_pos hp, docD_full t]; rfl
    · rename_i hp
      show docD (92 :: hx (c.toNat / 16) :: hx (c.toNat % 16) :: t.flatMap qb) = _
      have := c.toNat_lt
      unfold docD
      rw [if_pos (by decide)]
      simp only
      rw [if_neg (by rw [hx_dg _ (by omega), hx_dg _ (Nat.mod_lt _ (by decide))]; omega), two_hx, if_neg hp, docD_full t]; rfl
theorem prgD_full : ∀ t : List UInt8, prgD (t.flatMap qb) = some t
  | [] => rfl
  | c :: t => by
    rw [List.flatMap_cons]
    unfold qb
    split
    · rename_i hp
      show prgD (c :: t.flatMap qb) = _
      unfold prgD
      rw [if_neg (plain_ne hp), prgD_full t]; rfl
    · rename_i hp
      show prgD (92 :: hx (c.toNat / 16) :: hx (c.toNat % 16) :: t.flatMap qb) = _
      have := c.toNat_lt
      unfold prgD
      rw [if_pos (by decide)]
      simp only
      have e1 : max 0 (dg (hx (c.toNat / 16))) = dg (hx (c.toNat / 16)) := by rw [hx_dg _ (by omega)]; omega
      have e2 : max 0 (dg (hx (c.toNat % 16))) = dg (hx (c.toNat % 16)) := by rw [hx_dg _ (Nat.mod_lt _ (by decide))]; omega
      rw [e1, e2, two_hx, prgD_full t]; rfl
theorem docD_iff (l t : List UInt8) : docD l = some t ↔ t.flatMap qb = l := ⟨docD_sound _ l t (Nat.le_refl _), fun h => h ▸ docD_full t⟩
def innL (l : List UInt8) : List UInt8 := (l.drop 1).take (l.length - 2)
def unqL (l : List UInt8) : Option (List UInt8) :=
  if 2 ≤ l.length ∧ l.getD 0 0 = 34 ∧ l.getD (l.length - 1) 0 = 34 then docD (innL l) else none
theorem innL_of {l m : List UInt8} (h : l = 34 :: (m ++ [34])) : 2 ≤ l.length ∧ l.getD 0 0 = 34 ∧ l.getD (l.length - 1) 0 = 34 ∧ innL l = m := by
  subst h
  refine ⟨by simp, rfl, ?_, ?_⟩
  · simp [List.getD]
  · simp [innL]
theorem of_innL {l : List UInt8} (h1 : 2 ≤ l.length) (h2 : l.getD 0 0 = 34) (h3 : l.getD (l.length - 1) 0 = 34) : l = 34 :: (innL l ++ [34]) := by
  match l, h1, h2 with
  | c :: r, h1, h2 =>
    have hc : c = 34 := h2
    subst hc
    congr 1
    simp only [List.length_cons, Nat.add_sub_cancel] at h3
    have hr : r ≠ [] := by rintro rfl; simp at h1
    have hlast : r.getLast hr = 34 := by
      rw [List.getLast_eq_getElem]
      have h4 : 0 < r.length := List.length_pos_iff.2 hr
      have h5 : ∀ n, r.length = n + 1 → (34 :: r).getD r.length 0 = r[r.length - 1] := fun n hn => by
        have h6 : (34 :: r)[r.length]? = some r[r.length - 1] := by
          have h7 : (34 :: r)[r.length - 1 + 1]? = some r[r.length - 1] := by
            rw [List.getElem?_cons_succ, List.getElem?_eq_getElem (by omega)]
          rwa [Nat.sub_add_cancel h4] at h7
        rw [List.getD_eq_getElem?_getD, h6]; rfl
      rw [← h5 (r.length - 1) (by omega)]; exact h3
    have h6 : r.dropLast ++ [r.getLast hr] = r := List.dropLast_concat_getLast hr
    rw [hlast] at h6
    rw [← h6]
    simp [innL]
theorem unqL_iff (l t : List UInt8) : unqL l = some t ↔ quL t = l := by
  unfold unqL
  constructor
  · intro h
    split at h
    · rename_i hc
      have h1 := of_innL hc.1 hc.2.1 hc.2.2
      rw [docD_iff] at h
      unfold quL
      rw [h]; exact h1.symm
    · cases h
  · intro h
    obtain ⟨h1, h2, h3, h4⟩ := innL_of (l := l) (m := t.flatMap qb) h.symm
    rw [if_pos ⟨h1, h2, h3⟩, h4, docD_full]
theorem unqL_prg {l t : List UInt8} (h : unqL l = some t) : prgD (innL l) = some t := by
  have h1 := (unqL_iff l t).1 h
  rw [(innL_of (l := l) (m := t.flatMap qb) h1.symm).2.2.2, prgD_full]
theorem unqL_none {l t : List UInt8} (h : prgD (innL l) = some t) (hq : quL t ≠ l) : unqL l = none := by
  cases hu : unqL l with
  | none => rfl
  | some t' =>
    have h1 := unqL_prg hu
    rw [h] at h1
    cases h1
    exact absurd ((unqL_iff l t).1 hu) hq
theorem unqL_none' {l : List UInt8} (h : prgD (innL l) = none) : unqL l = none := by
  cases hu : unqL l with
  | none => rfl
  | some t' => rw [unqL_prg hu] at h; cases h
theorem unqL_quL (t : List UInt8) : unqL (quL t) = some t := (unqL_iff _ t).2 rfl
theorem quL_unqL {l t : List UInt8} (h : unqL l = some t) : quL t = l := (unqL_iff l t).1 h
theorem qb_len (c : UInt8) : (qb c).length ≤ 3 := by unfold qb; split <;> simp
theorem quL_len (l : List UInt8) : (quL l).length ≤ 3 * l.length + 2 := by
  have : ∀ l : List UInt8, (l.flatMap qb).length ≤ 3 * l.length := fun l => by
    induction l with
    | nil => simp
    | cons c l ih => rw [List.flatMap_cons, List.length_append, List.length_cons]; have := qb_len c; omega
  have := this l
  unfold quL
  rw [List.length_cons, List.length_append, List.length_singleton]; omega
end Go.Proofs.YtmepcmphcghbeaaDoor
namespace Go.Proofs.YtmepcmphcghbeaaDoor
open Go Go.RowKit
set_option linter.unusedSimpArgs false
set_option linter.unnecessarySimpa false
set_option linter.unusedVariables false
open Go.Lib (decDigits decFrom digitVal)
theorem tdigVal {d : Nat} (h : d < 10) : digitVal (UInt8.ofNat (48 + d)) = some d := by
  have e : (UInt8.ofNat (48 + d)).toNat = 48 + d := by simp; omega
  unfold digitVal
  rw [e, if_pos ⟨by omega, by omega⟩]; congr 1; omega
theorem tdec_snoc {l : List UInt8} {a n d : Nat} {c : UInt8} (h : decFrom a l = some n) (hc : digitVal c = some d) : decFrom a (l ++ [c]) = some (n * 10 + d) := by
  have h1 := Lib.decFrom_take (l ++ [c]) l.length a n c d (by rw [List.take_left']; exact h; rfl) (by simp) hc
  rwa [show l.length + 1 = (l ++ [c]).length by simp, List.take_length] at h1
theorem tdec_more {n : Nat} (h : ¬ n < 10) : decDigits n = decDigits (n / 10) ++ [UInt8.ofNat (48 + n % 10)] := by rw [decDigits, dif_neg h]
theorem tdec_val : ∀ n : Nat, decFrom 0 (decDigits n) = some n := by
  intro n
  induction n using Nat.strongRecOn with
  | _ n ih =>
    by_cases h : n < 10
    · rw [Lib.decDigits_one h]
      simp only [decFrom, tdigVal h]; simp
    · rw [tdec_more h, tdec_snoc (ih (n / 10) (by omega)) (tdigVal (by omega))]
      congr 1; omega
theorem tdec_pos (n : Nat) : decDigits n ≠ [] := by
  by_cases h : n < 10
  · rw [Lib.decDigits_one h]; simp
  · rw [tdec_more h]; simp
theorem tdec_len : ∀ (k n : Nat), n < 10 ^ (k + 1) → (decDigits n).length ≤ k + 1
  | 0, n, h => by rw [Lib.decDigits_one (by simpa using h)]; simp
  | k + 1, n, h => by
    by_cases h9 : n < 10
    · rw [Lib.decDigits_one h9]; simp
    · rw [tdec_more h9]
      have := tdec_len k (n / 10) (by rw [Nat.pow_succ] at h; omega)
      simp only [List.length_append, List.length_cons, List.length_nil]; omega
theorem tdec_back : ∀ (k : Nat) (l : List UInt8), l.length = k → l ≠ [] → (∀ c ∈ l, 48 ≤ c.toNat ∧ c.toNat ≤ 57) → l.head? ≠ some 48 → ∃ v, decFrom 0 l = some v ∧ decDigits v = l ∧ 1 ≤ v := by
  intro k
  induction k with
  | zero => intro l h h1; exact absurd (List.eq_nil_of_length_eq_zero h) h1
  | succ k ih =>
    intro l hl h1 hd hh
    obtain ⟨l', c, rfl⟩ : ∃ l' c, l = l' ++ [c] := ⟨l.dropLast, l.getLast h1, (List.dropLast_concat_getLast h1).symm⟩
    have hc := hd c (by simp)
    have hlt : c.toNat - 48 < 10 := by omega
    have ec : UInt8.ofNat (48 + (c.toNat - 48)) = c := by
      apply UInt8.toNat_inj.1; simp; omega
    have hcv := tdigVal hlt
    rw [ec] at hcv
    by_cases h0 : l' = []
    · subst h0
      refine ⟨c.toNat - 48, ?_, ?_, ?_⟩
      · simp only [List.nil_append, decFrom, hcv]; simp
      · rw [Lib.decDigits_one hlt, ec]; rfl
      · rcases Nat.eq_zero_or_pos (c.toNat - 48) with h | h
        · exfalso; apply hh
          simp only [List.nil_append, List.head?_cons]
          congr 1; apply UInt8.toNat_inj.1
          show c.toNat = 48; omega
        · exact h
    · obtain ⟨v, g1, g2, g3⟩ := ih l' (by simpa using hl) h0 (fun x hx => hd x (by simp [hx])) (by
        cases l' with
        | nil => exact absurd rfl h0
        | cons a r => simpa using hh)
      refine ⟨v * 10 + (c.toNat - 48), tdec_snoc g1 hcv, ?_, by omega⟩
      rw [tdec_more (by omega), show (v * 10 + (c.toNat - 48)) / 10 = v by omega, show (v * 10 + (c.toNat - 48)) % 10 = c.toNat - 48 by omega, g2, ec]
theorem tdec_digs : ∀ n : Nat, ∀ c ∈ decDigits n, 48 ≤ c.toNat ∧ c.toNat ≤ 57 := by
  intro n
  induction n using Nat.strongRecOn with
  | _ n ih =>
    intro c hc
    have key : ∀ d : Nat, d < 10 → 48 ≤ (UInt8.ofNat (48 + d)).toNat ∧ (UInt8.ofNat (48 + d)).toNat ≤ 57 := fun d hd => by
      have e : (UInt8.ofNat (48 + d)).toNat = 48 + d := by simp; omega
      omega
    by_cases h : n < 10
    · rw [Lib.decDigits_one h] at hc
      obtain rfl := List.mem_singleton.1 hc; exact key n h
    · rw [tdec_more h] at hc
      rcases List.mem_append.1 hc with hc | hc
      · exact ih (n / 10) (by omega) c hc
      · obtain rfl := List.mem_singleton.1 hc; exact key (n % 10) (by omega)
theorem tdec_head : ∀ n : Nat, 1 ≤ n → (decDigits n).head? ≠ some 48 := by
  intro n
  induction n using Nat.strongRecOn with
  | _ n ih =>
    intro h1
    by_cases h : n < 10
    · rw [Lib.decDigits_one h]
      intro h9
      have h9 : UInt8.ofNat (48 + n) = 48 := by simpa using h9
      have h8 := congrArg UInt8.toNat h9
      have e : (UInt8.ofNat (48 + n)).toNat = 48 + n := by simp; omega
      rw [e] at h8
      have : (48 : UInt8).toNat = 48 := rfl
      omega
    · rw [tdec_more h]
      have := ih (n / 10) (by omega) (by omega)
      cases hd : decDigits (n / 10) with
      | nil => exact absurd hd (tdec_pos _)
      | cons a r => rw [hd] at this; simpa using this
theorem tdec_zero : decDigits 0 = [48] := Lib.decDigits_one (by decide)
theorem tdecFrom_ge : ∀ (l : List UInt8) (a v : Nat), decFrom a l = some v → a ≤ v
  | [], a, v, h => by simp only [decFrom, Option.some.injEq] at h; omega
  | c :: r, a, v, h => by
    simp only [decFrom] at h
    split at h
    · have := tdecFrom_ge r _ v h; omega
    · cases h
theorem tdecFrom_all : ∀ (l : List UInt8) (a : Nat), (∃ v, decFrom a l = some v) ↔ ∀ c ∈ l, 48 ≤ c.toNat ∧ c.toNat ≤ 57
  | [], a => ⟨fun _ => (fun c hc => nomatch hc), fun _ => ⟨a, rfl⟩⟩
  | c :: r, a => by
    simp only [decFrom, digitVal]
    by_cases h : 48 ≤ c.toNat ∧ c.toNat ≤ 57
    · rw [if_pos h]
      simp only
      rw [tdecFrom_all r]
      constructor
      · intro h1 x hx
        rcases List.mem_cons.1 hx with rfl | hx
        · exact h
        · exact h1 x hx
      · exact fun h1 x hx => h1 x (List.mem_cons_of_mem _ hx)
    · rw [if_neg h]
      constructor
      · rintro ⟨_, h1⟩; cases h1
      · exact fun h1 => absurd (h1 c (List.mem_cons_self ..)) h
theorem parseUint_of : ∀ (l : List UInt8) (a v : Nat), decFrom a l = some v → v < 18446744073709551616 → Lib.parseUint10 a l = .ok v
  | [], a, v, h, _ => by simp only [decFrom, Option.some.injEq] at h; rw [h]; rfl
  | c :: r, a, v, h, hv => by
    simp only [decFrom, digitVal] at h
    unfold Lib.parseUint10
    split at h
    · rename_i d hd
      split at hd
      · rename_i hc
        cases hd
        have hg := tdecFrom_ge r _ v h
        rw [if_pos hc, if_neg (by omega), if_neg (by omega)]
        exact parseUint_of r _ v h hv
      · cases hd
    · cases h
theorem parseMag_dec {n : Nat} (h : n < 18446744073709551616) : Lib.parseMag (decDigits n) = .ok n := by
  unfold Lib.parseMag
  rw [if_neg (tdec_pos n)]
  exact parseUint_of _ 0 n (tdec_val n) h
theorem atoi_itoa {n : Int} (h0 : -9223372036854775808 ≤ n) (h1 : n ≤ 9223372036854775807) : Lib.atoiAll (Lib.itoa n) = .ok n := by
  by_cases h : n < 0
  · obtain ⟨m, rfl⟩ : ∃ m : Nat, n = -(m : Int) := ⟨(-n).toNat, by omega⟩
    rw [Lib.itoa_neg m (by omega), Lib.atoiAll_minus, parseMag_dec (by omega)]
    simp only [Lib.signed]
    rw [if_neg (by omega)]
  · obtain ⟨m, rfl⟩ : ∃ m : Nat, n = (m : Int) := ⟨n.toNat, by omega⟩
    rw [Lib.itoa_nonneg m]
    cases hd : decDigits m with
    | nil => exact absurd hd (tdec_pos m)
    | cons c r =>
      have hc := tdec_digs m c (by rw [hd]; exact List.mem_cons_self ..)
      rw [Lib.atoiAll_plain c r (by omega) (by omega), ← hd, parseMag_dec (by omega)]
      simp only [Lib.signless]
      rw [if_neg (by omega)]
theorem wrapU {n : Int} (h1 : 0 ≤ n) (h2 : n < 18446744073709551616) : IntKind.u64.wrap n = n := by
  rw [IntKind.wrap_u64]; omega
def atV (l : List UInt8) : Int := match Lib.atoiAll l with | .ok v => v | .syntax => 0 | .range => Lib.atoiSat l
def atOk (l : List UInt8) : Bool := match Lib.atoiAll l with | .ok _ => true | _ => false
theorem atV_bounds (l : List UInt8) : -9223372036854775808 ≤ atV l ∧ atV l ≤ 9223372036854775807 := by
  unfold atV
  split
  · exact Lib.atoiAll_bounds (by assumption)
  · omega
  · exact Lib.atoiSat_bounds l
theorem at_itoa {n : Int} (h0 : -9223372036854775808 ≤ n) (h1 : n ≤ 9223372036854775807) : atV (Lib.itoa n) = n ∧ atOk (Lib.itoa n) = true := by
  unfold atV atOk
  rw [atoi_itoa h0 h1]
  exact ⟨rfl, rfl⟩
def nuD (l : List UInt8) : List UInt8 := if l.head? = some 45 then l.drop 1 else l
def nuBad (l : List UInt8) : Bool := decide ((nuD l).length < 1) || decide ((nuD l).length > 19) || (decide ((nuD l).head? = some 48) && !decide (l = [48]))
def nuV (l : List UInt8) (n : Nat) : Int × Bool :=
  if l.head? = some 45 then (IntKind.i64.wrap (IntKind.i64.wrap (0 - IntKind.i64.wrap (IntKind.u64.wrap ((n : Int) - 1))) - 1), decide ((n : Int) ≤ 9223372036854775808))
  else (IntKind.i64.wrap (n : Int), decide ((n : Int) ≤ 9223372036854775807))
def nuR (l : List UInt8) : Int × Bool :=
  if nuBad l = true then (0, false) else match decFrom 0 (nuD l) with
  | none => (0, false)
  | some n => nuV l n
theorem nuBad_no {l : List UInt8} (h1 : 1 ≤ (nuD l).length) (h2 : (nuD l).length ≤ 19) (h3 : (nuD l).head? = some 48 → l = [48]) : nuBad l = false := by
  unfold nuBad
  simp only [Bool.or_eq_false_iff, Bool.and_eq_false_iff, decide_eq_false_iff_not, Bool.not_eq_false', decide_eq_true_eq]
  refine ⟨⟨by omega, by omega⟩, ?_⟩
  by_cases h : (nuD l).head? = some 48
  · exact .inr (h3 h)
  · exact .inl h
theorem nu_neg {m : Nat} (h1 : 1 ≤ m) (h2 : m ≤ 9223372036854775808) : IntKind.i64.wrap (IntKind.i64.wrap (0 - IntKind.i64.wrap (IntKind.u64.wrap ((m : Int) - 1))) - 1) = -(m : Int) := by
  have e1 : IntKind.u64.wrap ((m : Int) - 1) = (m : Int) - 1 := wrapU (by omega) (by omega)
  have e2 : IntKind.i64.wrap ((m : Int) - 1) = (m : Int) - 1 := wrap_in (by omega) (by omega)
  have e3 : IntKind.i64.wrap (0 - ((m : Int) - 1)) = 0 - ((m : Int) - 1) := wrap_in (by omega) (by omega)
  rw [e1, e2, e3, wrap_in (by omega) (by omega)]
  omega
theorem nu_itoa {n : Int} (h0 : -9223372036854775808 ≤ n) (h1 : n ≤ 9223372036854775807) : nuR (Lib.itoa n) = (n, true) := by
  by_cases h : n < 0
  · obtain ⟨m, rfl⟩ : ∃ m : Nat, n = -(m : Int) := ⟨(-n).toNat, by omega⟩
    have hm : 1 ≤ m := by omega
    have hd : nuD (Lib.itoa (-(m : Int))) = decDigits m := by rw [Lib.itoa_neg m hm]; rfl
    have hh : (Lib.itoa (-(m : Int))).head? = some 45 := by rw [Lib.itoa_neg m hm]; rfl
    have hl := tdec_len 18 m (by omega)
    have hp := List.length_pos_iff.2 (tdec_pos m)
    unfold nuR
    rw [nuBad_no (by rw [hd]; omega) (by rw [hd]; omega) (fun h => absurd h (by rw [hd]; exact tdec_head m hm)), if_neg (by simp), hd, tdec_val]
    simp only [nuV]
    rw [if_pos hh, nu_neg hm (by omega)]
    simp only [Prod.mk.injEq, decide_eq_true_eq, true_and]
    omega
  · obtain ⟨m, rfl⟩ : ∃ m : Nat, n = (m : Int) := ⟨n.toNat, by omega⟩
    have hl := tdec_len 18 m (by omega)
    have hp := List.length_pos_iff.2 (tdec_pos m)
    have hh : ¬ (Lib.itoa (m : Int)).head? = some 45 := by
      rw [Lib.itoa_nonneg]
      cases hd : decDigits m with
      | nil => simp
      | cons c r =>
        have hc := tdec_digs m c (by rw [hd]; exact List.mem_cons_self ..)
        intro h9
        have h9 : c = 45 := by simpa using h9
        rw [h9] at hc; exact absurd hc.1 (by decide)
    have hd : nuD (Lib.itoa (m : Int)) = decDigits m := by unfold nuD; rw [if_neg hh, Lib.itoa_nonneg]
    unfold nuR
    have hb : nuBad (Lib.itoa (m : Int)) = false := by
      refine nuBad_no (by rw [hd]; omega) (by rw [hd]; omega) fun h => ?_
      rcases Nat.eq_zero_or_pos m with rfl | hm
      · rw [Lib.itoa_nonneg, tdec_zero]
      · exact absurd h (by rw [hd]; exact tdec_head m hm)
    rw [hb, if_neg (by simp), hd, tdec_val]
    simp only [nuV]
    rw [if_neg hh, wrap_in (by omega) (by omega)]
    simp only [Prod.mk.injEq, decide_eq_true_eq, true_and]
    omega
theorem itoa_nu {l : List UInt8} (h : (nuR l).2 = true) : Lib.itoa (nuR l).1 = l ∧ -9223372036854775808 ≤ (nuR l).1 ∧ (nuR l).1 ≤ 9223372036854775807 := by
  unfold nuR at h ⊢
  by_cases hb : nuBad l = true
  · rw [if_pos hb] at h; cases h
  · rw [if_neg hb] at h ⊢
    cases hv : decFrom 0 (nuD l) with
    | none => rw [hv] at h; cases h
    | some n =>
      rw [hv] at h
      simp only at h ⊢
      unfold nuBad at hb
      simp only [Bool.or_eq_true, Bool.and_eq_true, decide_eq_true_eq, Bool.not_eq_true', decide_eq_false_iff_not, not_or, not_and, Decidable.not_not] at hb
      obtain ⟨⟨b1, b2⟩, b3⟩ := hb
      have hdg := (tdecFrom_all (nuD l) 0).1 ⟨n, hv⟩
      have hne : nuD l ≠ [] := fun e => by rw [e] at b1; exact b1 (by simp)
      unfold nuV at h ⊢
      by_cases hm : l.head? = some 45
      · rw [if_pos hm] at h ⊢
        have hle : n ≤ 9223372036854775808 := by (have h9 := of_decide_eq_true h; omega)
        have h48 : (nuD l).head? ≠ some 48 := fun e => by rw [b3 e] at hm; cases hm
        obtain ⟨v, g1, g2, g3⟩ := tdec_back _ _ rfl hne hdg h48
        rw [hv] at g1; cases g1
        have hll : l = 45 :: nuD l := by
          cases l with
          | nil => cases hm
          | cons c r => have hc : c = 45 := by simpa using hm
                        subst hc; rfl
        simp only [nu_neg g3 hle]
        refine ⟨?_, by omega, by omega⟩
        rw [Lib.itoa_neg n g3, g2]; exact hll.symm
      · rw [if_neg hm] at h ⊢
        have hle : n ≤ 9223372036854775807 := by (have h9 := of_decide_eq_true h; omega)
        have hll : nuD l = l := by unfold nuD; rw [if_neg hm]
        rw [wrap_in (by omega) (by omega)]
        refine ⟨?_, by omega, by omega⟩
        rw [Lib.itoa_nonneg]
        by_cases h48 : (nuD l).head? = some 48
        · have e := b3 h48
          rw [hll, e] at hv
          have : n = 0 := by
            have h9 : decFrom 0 [48] = some 0 := by decide
            rw [h9] at hv; exact (Option.some.inj hv).symm
          rw [this, tdec_zero, e]
        · obtain ⟨v, g1, g2, g3⟩ := tdec_back _ _ rfl hne hdg h48
          rw [hv] at g1; cases g1
          rw [g2, hll]
theorem cut1_no {b : UInt8} {l : List UInt8} (h : ∀ c ∈ l, c ≠ b) : Lib.cut l [b] = (l, [], false) := by
  unfold Lib.cut
  rw [Lib.index_none (s := l) (sub := [b]) fun j hj => ?_, if_neg (by decide)]
  unfold Lib.occAt
  cases hd : l.drop j with
  | nil => rfl
  | cons c r =>
    have hc : c ∈ l := List.mem_of_mem_drop (i := j) (by rw [hd]; exact List.mem_cons_self ..)
    simp only [List.isPrefixOf, Bool.and_true, beq_eq_false_iff_ne]
    exact fun e => h c hc e.symm
theorem cut1_at {b : UInt8} {x r : List UInt8} (h : ∀ c ∈ x, c ≠ b) : Lib.cut (x ++ b :: r) [b] = (x, r, true) := by
  have hi : Lib.index (x ++ b :: r) [b] = x.length := by
    refine Lib.index_first (by simp) ?_ fun j hj => ?_
    · unfold Lib.occAt; rw [List.drop_left]; simp [List.isPrefixOf]
    · unfold Lib.occAt
      rw [List.drop_append_of_le_length (by omega), List.drop_eq_getElem_cons hj]
      simp only [List.cons_append, List.isPrefixOf, Bool.and_true, beq_eq_false_iff_ne]
      exact fun e => h _ (List.getElem_mem hj) e.symm
  unfold Lib.cut
  rw [hi, if_pos (by omega)]
  simp
theorem cut1_or (b : UInt8) : ∀ l : List UInt8, (∀ c ∈ l, c ≠ b) ∨ ∃ x r, l = x ++ b :: r ∧ ∀ c ∈ x, c ≠ b
  | [] => .inl fun _ h => by cases h
  | c :: l => by
    by_cases h : c = b
    · exact .inr ⟨[], l, by rw [h]; rfl, fun _ h => by cases h⟩
    · rcases cut1_or b l with h1 | ⟨x, r, rfl, h1⟩
      · exact .inl fun y hy => by
          rcases List.mem_cons.1 hy with rfl | hy
          · exact h
          · exact h1 y hy
      · exact .inr ⟨c :: x, r, rfl, fun y hy => by
          rcases List.mem_cons.1 hy with rfl | hy
          · exact h
          · exact h1 y hy⟩
def joinW : List (List UInt8) → List UInt8
  | [] => []
  | [w] => w
  | w :: v :: r => w ++ 32 :: joinW (v :: r)
def wordsL : Nat → List UInt8 → List (List UInt8)
  | 0, l => [l]
  | m + 1, l => if (Lib.cut l [32]).2.2 = true then (Lib.cut l [32]).1 :: wordsL m (Lib.cut l [32]).2.1 else [l]
theorem wordsL_ne : ∀ (m : Nat) (l : List UInt8), wordsL m l ≠ []
  | 0, l => by simp [wordsL]
  | m + 1, l => by unfold wordsL; split <;> simp
theorem wordsL_at {m : Nat} {x r : List UInt8} (h : ∀ c ∈ x, c ≠ 32) : wordsL (m + 1) (x ++ 32 :: r) = x :: wordsL m r := by
  rw [wordsL, cut1_at h, if_pos rfl]
theorem wordsL_no {m : Nat} {l : List UInt8} (h : ∀ c ∈ l, c ≠ 32) : wordsL m l = [l] := by
  cases m with
  | zero => rfl
  | succ m => unfold wordsL; rw [cut1_no h]; rfl
theorem join_words : ∀ (m : Nat) (l : List UInt8), joinW (wordsL m l) = l
  | 0, l => rfl
  | m + 1, l => by
    rcases cut1_or 32 l with h | ⟨x, r, rfl, h⟩
    · rw [wordsL_no h]; rfl
    · rw [wordsL_at h]
      have h1 := join_words m r
      cases hw : wordsL m r with
      | nil => exact absurd hw (wordsL_ne m r)
      | cons v t => rw [hw] at h1; simp only [joinW]; rw [h1]
end Go.Proofs.YtmepcmphcghbeaaDoor
namespace Go.Proofs.YtmepcmphcghbeaaDoor
open Go Go.Shelf
def Tryd.lays137_ren : Go.Shelf.Ren := ⟨fun | 137 => 24 | 217 => 41 | 266 => 55 | n => n, fun | 9 => 9 | 5 => 5 | 3 => 3 | n => n, fun | n => n⟩
theorem Tryd.lays137 : Go.Proofs.Lays.n137 Tryd.prog Tryd.lays137_ren := {
  mixed := by kernel_rfl
  f137 := Tryd.func24.trans (congrArg some (by kernel_rfl))
  f217 := Tryd.func41.trans (congrArg some (by kernel_rfl))
  f266 := Tryd.func55.trans (congrArg some (by kernel_rfl))
  t3 := Tryd.underlying3
  a3 := Tryd.isAgg3
  z3 := Tryd.sizeOf3
  v3 := Tryd.zeroValue3
  t5 := Tryd.underlying5
  a5 := Tryd.isAgg5
  z5 := Tryd.sizeOf5
  v5 := Tryd.zeroValue5
  t9 := Tryd.underlying9
  a9 := Tryd.isAgg9
  z9 := Tryd.sizeOf9
  v9 := Tryd.zeroValue9 }
open Go.RowKit in
theorem Tryd.strings_IndexByte (s : ByteArray) (c : Int) (w : World) :
    Calls Tryd.prog 24 #[.string s, .int .u8 c] w fun e w' => e = .returned (.int .i64 (Lib.indexByte s.data.toList c.toNat.toUInt8)) ∧ w' = w := Any.strings_IndexByte Tryd.lays137 s c w
def Tryd.laysM157_ren : Go.Shelf.Ren := ⟨fun | 157 => 60 | 229 => 70 | 199 => 71 | 261 => 82 | 311 => 91 | 312 => 92 | n => n, fun | 9 => 9 | 31 => 65 | 3 => 3 | 5 => 5 | 4 => 4 | 119 => 98 | 0 => 0 | 40 => 100 | 152 => 115 | 21 => 21 | 154 => 117 | 51 => 112 | 141 => 119 | 196 => 132 | 193 => 129 | 198 => 135 | 49 => 133 | 194 => 130 | 201 => 138 | 226 => 145 | 46 => 52 | 227 => 146 | n => n, fun | 0 => 2 | 6 => 3 | n => n⟩
theorem Tryd.laysM157 : Go.Proofs.LaysM.n157 Tryd.prog Tryd.laysM157_ren := {
  mixed := by kernel_rfl
  f157 := Tryd.func60.trans (congrArg some (by kernel_rfl))
  f199 := Tryd.func71.trans (congrArg some (by kernel_rfl))
  f229 := Tryd.func70.trans (congrArg some (by kernel_rfl))
  f261 := Tryd.func82.trans (congrArg some (by kernel_rfl))
  f311 := Tryd.func91.trans (congrArg some (by kernel_rfl))
  f312 := Tryd.func92.trans (congrArg some (by kernel_rfl))
  t0 := Tryd.underlying0
  a0 := Tryd.isAgg0
  z0 := Tryd.sizeOf0
  v0 := Tryd.zeroValue0
  t3 := Tryd.underlying3
  a3 := Tryd.isAgg3
  z3 := Tryd.sizeOf3
  v3 := Tryd.zeroValue3
  t4 := Tryd.underlying4
  a4 := Tryd.isAgg4
  z4 := Tryd.sizeOf4
  v4 := Tryd.zeroValue4
  t5 := Tryd.underlying5
  a5 := Tryd.isAgg5
  z5 := Tryd.sizeOf5
  v5 := Tryd.zeroValue5
  t9 := Tryd.underlying9
  a9 := Tryd.isAgg9
  z9 := Tryd.sizeOf9
  v9 := Tryd.zeroValue9
  t21 := Tryd.underlying21
  a21 := Tryd.isAgg21
  z21 := Tryd.sizeOf21
  v21 := Tryd.zeroValue21
  t31 := Tryd.underlying65
  a31 := Tryd.isAgg65
  z31 := Tryd.sizeOf65
  v31 := Tryd.zeroValue65
  t40 := Tryd.underlying100
  a40 := Tryd.isAgg100
  z40 := Tryd.sizeOf100
  v40 := Tryd.zeroValue100
  t46 := Tryd.underlying52
  a46 := Tryd.isAgg52
  z46 := Tryd.sizeOf52
  v46 := Tryd.zeroValue52
  t49 := Tryd.underlying133
  a49 := Tryd.isAgg133
  z49 := Tryd.sizeOf133
  v49 := Tryd.zeroValue133
  t51 := Tryd.underlying112
  a51 := Tryd.isAgg112
  z51 := Tryd.sizeOf112
  v51 := Tryd.zeroValue112
  t119 := Tryd.underlying98
  a119 := Tryd.isAgg98
  z119 := Tryd.sizeOf98
  t141 := Tryd.underlying119
  a141 := Tryd.isAgg119
  z141 := Tryd.sizeOf119
  v141 := Tryd.zeroValue119
  t152 := Tryd.underlying115
  a152 := Tryd.isAgg115
  z152 := Tryd.sizeOf115
  v152 := Tryd.zeroValue115
  t154 := Tryd.underlying117
  a154 := Tryd.isAgg117
  z154 := Tryd.sizeOf117
  v154 := Tryd.zeroValue117
  t193 := Tryd.underlying129
  a193 := Tryd.isAgg129
  z193 := Tryd.sizeOf129
  v193 := Tryd.zeroValue129
  t194 := Tryd.underlying130
  a194 := Tryd.isAgg130
  z194 := Tryd.sizeOf130
  v194 := Tryd.zeroValue130
  t196 := Tryd.underlying132
  a196 := Tryd.isAgg132
  z196 := Tryd.sizeOf132
  v196 := Tryd.zeroValue132
  t198 := Tryd.underlying135
  a198 := Tryd.isAgg135
  z198 := Tryd.sizeOf135
  v198 := Tryd.zeroValue135
  t201 := Tryd.underlying138
  a201 := Tryd.isAgg138
  z201 := Tryd.sizeOf138
  v201 := Tryd.zeroValue138
  t226 := Tryd.underlying145
  a226 := Tryd.isAgg145
  z226 := Tryd.sizeOf145
  v226 := Tryd.zeroValue145
  t227 := Tryd.underlying146
  a227 := Tryd.isAgg146
  z227 := Tryd.sizeOf146
  v227 := Tryd.zeroValue146
  g0 := by kernel_rfl
  g6 := by kernel_rfl
  i0 := by kernel_rfl
  i3 := by kernel_rfl
  i4 := by kernel_rfl
  i5 := by kernel_rfl
  i9 := by kernel_rfl
  i21 := by kernel_rfl
  i31 := by kernel_rfl
  i40 := by kernel_rfl
  i46 := by kernel_rfl
  i49 := by kernel_rfl
  i51 := by kernel_rfl
  i141 := by kernel_rfl
  i152 := by kernel_rfl
  i154 := by kernel_rfl
  i193 := by kernel_rfl
  i194 := by kernel_rfl
  i196 := by kernel_rfl
  i198 := by kernel_rfl
  i201 := by kernel_rfl
  i226 := by kernel_rfl
  i227 := by kernel_rfl
  m0 := by kernel_rfl
  m6 := by kernel_rfl }
open Go.RowKit Go.Lib in
theorem Tryd.strings_Fields_laid (s : ByteArray) (w : World) (hs : s.size < 4294967281) (hascii : ∀ (j : Nat) b, s.data.toList[j]? = some b → b.toNat < 128) (htab : Lib.TabIs Tryd.prog w "strings.asciiSpace" .u8 Lib.asciiSpaceTab) :
    Calls Tryd.prog 60 #[.string s] w fun e w' =>
      e = .returned (.slice (some ⟨w.heap.size, 0, none⟩) (Lib.fields s.data.toList).length (Lib.fields s.data.toList).length) ∧ w' = w.alloc (.cells ((Lib.fields s.data.toList).map fun l => Value.string ⟨l.toArray⟩).toArray 9) := Any.strings_Fields_laid Tryd.laysM157 s w hs hascii htab
end Go.Proofs.YtmepcmphcghbeaaDoor
