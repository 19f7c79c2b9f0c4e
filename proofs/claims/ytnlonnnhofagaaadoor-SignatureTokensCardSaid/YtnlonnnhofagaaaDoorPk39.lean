/- Texts of the abstract walk, of the contracts and of the plain laws, packed (part 39 of 39): TkW Great Sg11 Ftokens. Conditions: none. -/
import Derived.Test.YtnlonnnhofagaaaDoorPk38
import Derived.Test.YtnlonnnhofagaaaDoorCards
import Derived.Test.YtnlonnnhofagaaaDoorTie
import Derived.LaidSub
import Derived.Lib.LaidTab
import Derived.OpenShut
import Derived.ChangeOld
import Derived.Below
import Derived.LaidMore
import Derived.Lay
import Derived.SevenTiedAt
namespace Go.Proofs.YtnlonnnhofagaaaDoor
open Go Go.RowKit
set_option linter.unusedSimpArgs false
set_option linter.unusedVariables false
set_option linter.unnecessarySimpa false
abbrev bl (s : ByteArray) : List UInt8 := s.data.toList
theorem bl_len (s : ByteArray) : (bl s).length = s.size := Array.length_toList
theorem bl_app (a b : ByteArray) : bl (a ++ b) = bl a ++ bl b := by simp [bl, ByteArray.data_append]
theorem bt_at {s : ByteArray} {P S : List UInt8} {c : UInt8} (h : bl s = P ++ c :: S) : P.length < s.size ∧ bt s P.length = c.toNat := by
  have hl : P.length < s.size := by rw [← bl_len, h]; simp
  refine ⟨hl, ?_⟩
  have h1 := byte_at hl
  have h2 : (bl s)[P.length]? = some c := by rw [h]; simp
  unfold bt
  rw [show s.data.toList = bl s from rfl, h2] at h1
  rw [← Option.some.inj h1]
theorem ex_at {s : ByteArray} {P X S : List UInt8} (h : bl s = P ++ (X ++ S)) : s.extract P.length (P.length + X.length) = ⟨X.toArray⟩ := by
  have h1 : bl (s.extract P.length (P.length + X.length)) = X := by
    simp only [bl, ByteArray.data_extract, Array.toList_extract, List.extract_eq_take_drop]
    rw [show s.data.toList = bl s from rfl, h]
    simp
  have h2 : (s.extract P.length (P.length + X.length)).data = X.toArray := Array.ext' h1
  exact congrArg ByteArray.mk h2
def Wst (s : ByteArray) (i j : Nat) (ts : List Vw) : Prop := ∀ (f : Nat) (out : List Tok), s.size - i < f → ∃ f' out', s.size - j < f' ∧ out'.map vw = out.map vw ++ ts ∧ wdF s f i out = wdF s f' j out'
theorem Wst.trans {s : ByteArray} {i j k : Nat} {a b : List Vw} (h1 : Wst s i j a) (h2 : Wst s j k b) : Wst s i k (a ++ b) := fun f out hf => by
  obtain ⟨f1, o1, g1, g2, g3⟩ := h1 f out hf
  obtain ⟨f2, o2, k1, k2, k3⟩ := h2 f1 o1 g1
  exact ⟨f2, o2, k1, by rw [k2, g2, List.append_assoc], by rw [g3, k3]⟩
theorem w_blank {s : ByteArray} {P S : List UInt8} (h : bl s = P ++ 32 :: S) : Wst s P.length (P.length + 1) [] := fun f out hf => by
  obtain ⟨h1, h2⟩ := bt_at h
  obtain ⟨g, rfl⟩ : ∃ g, f = g + 1 := ⟨f - 1, by omega⟩
  refine ⟨g, out, by omega, by simp, ?_⟩
  rw [wdF, if_pos h1, h2, if_pos (by decide)]
theorem w_tok {s : ByteArray} {i n : Nat} {k : Int} (hi : i < s.size) (hb : blI (bt s i) = false) (hc : ¬ bt s i = 35) (hn : nxF s i = (k, n, 0)) (hp : 0 < n) (hl : i + n ≤ s.size) : Wst s i (i + n) [(k, s.extract i (i + n))] := fun f out hf => by
  obtain ⟨g, rfl⟩ : ∃ g, f = g + 1 := ⟨f - 1, by omega⟩
  refine ⟨g, out ++ [tkOf s i], by omega, ?_, ?_⟩
  · simp only [List.map_append, List.map_cons, List.map_nil, tkOf, hn, vw]
  · rw [wdF, if_pos hi, if_neg (by simp [hb]), if_neg hc, hn, if_pos rfl]
theorem w_sign {s : ByteArray} {P S : List UInt8} {c : UInt8} (hc : c = 40 ∨ c = 41 ∨ c = 42) (h : bl s = P ++ c :: S) : Wst s P.length (P.length + 1) [(4, ⟨#[c]⟩)] := by
  obtain ⟨h1, h2⟩ := bt_at h
  have h3 := ex_at (X := [c]) (S := S) (by rw [h]; rfl)
  have h4 : nxF s P.length = (4, 1, 0) := by
    rcases hc with rfl | rfl | rfl <;> (rw [nx_sign (by rw [h2]; decide) (by rw [h2]; decide) (by rw [h2]; decide), if_pos (by rw [h2]; decide)])
  have h5 := w_tok h1 (by rw [h2]; rcases hc with rfl | rfl | rfl <;> decide) (by rw [h2]; rcases hc with rfl | rfl | rfl <;> decide) h4 (by omega) (by omega)
  rw [show P.length + 1 = P.length + [c].length from rfl, h3] at h5
  exact h5
theorem w_arrow {s : ByteArray} {P S : List UInt8} (h : bl s = P ++ 45 :: 62 :: S) : Wst s P.length (P.length + 2) [(4, bArrow)] := by
  obtain ⟨h1, h2⟩ := bt_at h
  obtain ⟨h3, h4⟩ := bt_at (s := s) (P := P ++ [45]) (S := S) (c := 62) (by rw [h]; simp)
  have e : (P ++ [(45 : UInt8)]).length = P.length + 1 := by simp
  rw [e] at h3 h4
  have h5 := ex_at (X := [45, 62]) (S := S) (by rw [h]; rfl)
  have h6 : nxF s P.length = (4, 2, 0) := by rw [nx_arrow (by rw [h2]; rfl), if_pos ⟨h3, by rw [h4]; rfl⟩]
  have h7 := w_tok h1 (by rw [h2]; decide) (by rw [h2]; decide) h6 (by omega) (by omega)
  rw [show P.length + 2 = P.length + [(45 : UInt8), 62].length from rfl, h5] at h7
  exact h7
def NoIn (S : List UInt8) : Prop := ∀ c r, S = c :: r → inI c.toNat = false
theorem kw_int : kwB ⟨#[105, 110, 116]⟩ = true := by kernel_rfl
theorem kw_bool : kwB ⟨#[98, 111, 111, 108]⟩ = true := by kernel_rfl
theorem w_kw {s : ByteArray} {P X S : List UInt8} (h : bl s = P ++ (X ++ S)) (hS : NoIn S) (hx : ∀ c ∈ X, inI c.toNat = true) (h0 : 0 < X.length) (hs : ∀ c, X[0]? = some c → smI c.toNat = true) (hk : kwB ⟨X.toArray⟩ = true) :
    Wst s P.length (P.length + X.length) [(3, ⟨X.toArray⟩)] := by
  have hsz : s.size = P.length + (X.length + S.length) := by rw [← bl_len, h]; simp
  have hat : ∀ i, i < s.size → ∀ c, (bl s)[i]? = some c → ((s[i]?).getD 0) = c := fun i hi c hc => by
    have h1 := byte_at hi
    rw [show s.data.toList = bl s from rfl, hc] at h1
    exact (Option.some.inj h1).symm
  have hX : ∀ i c, X[i]? = some c → ((s[P.length + i]?).getD 0) = c := fun i c hc => by
    have hi := (List.getElem?_eq_some_iff.1 hc).1
    refine hat _ (by omega) c ?_
    rw [h, List.getElem?_append_right (by omega), Nat.add_sub_cancel_left, List.getElem?_append_left hi, hc]
  have hr : runN s P.length inI = X.length := by
    refine runN_eq (by omega) (fun i hi => ?_) fun hh => ?_
    · rw [hX i X[i] (List.getElem?_eq_getElem hi)]
      exact hx _ (List.getElem_mem hi)
    · cases S with
      | nil => simp at hsz; omega
      | cons c r =>
        rw [hat _ hh c (by rw [h, List.getElem?_append_right (by omega), Nat.add_sub_cancel_left, List.getElem?_append_right (by omega), Nat.sub_self]; rfl)]
        exact hS c r rfl
  obtain ⟨c0, hc0⟩ : ∃ c, X[0]? = some c := ⟨_, List.getElem?_eq_getElem h0⟩
  have hb : bt s P.length = c0.toNat := by
    unfold bt
    have h9 := hX 0 c0 hc0
    rw [Nat.add_zero] at h9
    rw [h9]
  have hsm := hs c0 hc0
  have h5 := ex_at h
  have h6 : nxF s P.length = (3, X.length, 0) := by rw [nx_letter (by rw [hb]; exact hsm) hr, h5, if_pos hk]
  have hsm2 : 97 ≤ (c0.toNat : Int) := by unfold smI at hsm; simp at hsm; omega
  have h7 := w_tok (by omega) (by rw [hb]; unfold blI; simp; omega) (by rw [hb]; omega) h6 h0 (by omega)
  rw [h5] at h7
  exact h7
def TxOk (s : ByteArray) (T : Ty) : Prop := ∀ (P S : List UInt8), bl s = P ++ (bl T.tx ++ S) → NoIn S → Wst s P.length (P.length + T.tx.size) T.tk
def BxOk (s : ByteArray) (T : Ty) : Prop := ∀ (P S : List UInt8), bl s = P ++ (bl T.btx ++ S) → NoIn S → Wst s P.length (P.length + T.btx.size) T.btk
theorem noIn_cons {c : UInt8} {S : List UInt8} (h : inI c.toNat = false) : NoIn (c :: S) := fun c' r e => by cases e; exact h
variable {s : ByteArray}
theorem joinTail_cons (sep x : List UInt8) (r : List (List UInt8)) : Lib.joinTail sep (x :: r) = sep ++ (x ++ Lib.joinTail sep r) := by simp [Lib.joinTail]
theorem bl_join (p : Ty) (qs : List Ty) : bl (joinB ((p :: qs).map Ty.btx) bSt) = bl p.btx ++ Lib.joinTail (bl bSt) ((qs.map Ty.btx).map bl) := by
  show Lib.join ((((p :: qs).map Ty.btx)).map (·.data.toList)) bSt.data.toList = _
  rw [List.map_cons, List.map_cons, Lib.join_cons]
theorem rest_ok : ∀ (qs : List Ty) (P S : List UInt8), (∀ q ∈ qs, BxOk s q) → bl s = P ++ (Lib.joinTail (bl bSt) ((qs.map Ty.btx).map bl) ++ S) → NoIn S →
    Wst s P.length (P.length + (Lib.joinTail (bl bSt) ((qs.map Ty.btx).map bl)).length) (flT (qs.map Ty.btk))
  | [], P, S, _, h, hS => fun f out hf => ⟨f, out, by simpa [Lib.joinTail] using hf, by simp [flT], by simp [Lib.joinTail]⟩
  | q :: qs, P, S, hq, h, hS => by
    rw [List.map_cons, List.map_cons, joinTail_cons] at h ⊢
    have e0 : bl bSt = [32, 42, 32] := rfl
    rw [e0] at h ⊢
    have e1 : flT ((q :: qs).map Ty.btk) = [] ++ ([(4, bStar)] ++ ([] ++ (q.btk ++ flT (qs.map Ty.btk)))) := by simp [flT]
    rw [e1]
    have h1 := w_blank (s := s) (P := P) (S := 42 :: 32 :: (bl q.btx ++ (Lib.joinTail [32, 42, 32] ((qs.map Ty.btx).map bl) ++ S))) (by rw [h]; simp)
    have h2 := w_sign (s := s) (P := P ++ [32]) (S := 32 :: (bl q.btx ++ (Lib.joinTail [32, 42, 32] ((qs.map Ty.btx).map bl) ++ S))) (c := 42) (by simp) (by rw [h]; simp)
    have h3 := w_blank (s := s) (P := P ++ [32, 42]) (S := (bl q.btx ++ (Lib.joinTail [32, 42, 32] ((qs.map Ty.btx).map bl) ++ S))) (by rw [h]; simp)
    have hno : NoIn (Lib.joinTail [32, 42, 32] ((qs.map Ty.btx).map bl) ++ S) := by
      cases qs with
      | nil => simpa [Lib.joinTail] using hS
      | cons r qs => rw [List.map_cons, List.map_cons, joinTail_cons]; exact noIn_cons (by decide)
    have h4 := hq q (by simp) (P ++ [32, 42, 32]) (Lib.joinTail [32, 42, 32] ((qs.map Ty.btx).map bl) ++ S) (by rw [h]; simp) hno
    have h5 := rest_ok qs (P ++ [32, 42, 32] ++ bl q.btx) S (fun r hr => hq r (by simp [hr])) (by rw [h]; simp [e0]) hS
    rw [e0] at h5
    simp only [List.length_append, List.length_cons, List.length_nil, bl_len] at h1 h2 h3 h4 h5 ⊢
    refine h1.trans (h2.trans (h3.trans (h4.trans ?_)))
    rw [show P.length + (0 + 1 + 1 + 1 + (q.btx.size + (Lib.joinTail [32, 42, 32] ((qs.map Ty.btx).map bl)).length)) = P.length + (0 + 1 + 1 + 1) + q.btx.size + (Lib.joinTail [32, 42, 32] ((qs.map Ty.btx).map bl)).length by omega]
    exact h5
theorem br_ok {T : Ty} (h : TxOk s T) : BxOk s T := fun P S hl hS => by
  unfold Ty.btx brB at hl ⊢
  unfold Ty.btk brT
  by_cases hk : (T.k == 4) = true
  · rw [if_pos hk] at hl ⊢
    rw [if_pos hk]
    rw [bl_app, bl_app] at hl
    have e0 : bl bLp = [40] := rfl
    have e1 : bl bRp = [41] := rfl
    rw [e0, e1] at hl
    have h1 := w_sign (s := s) (P := P) (S := bl T.tx ++ (41 :: S)) (c := 40) (by simp) (by rw [hl]; simp)
    have h2 := h (P ++ [40]) (41 :: S) (by rw [hl]; simp) (noIn_cons (by decide))
    have h3 := w_sign (s := s) (P := P ++ [40] ++ bl T.tx) (S := S) (c := 41) (by simp) (by rw [hl]; simp)
    simp only [List.length_append, List.length_cons, List.length_nil, bl_len, ByteArray.size_append] at h1 h2 h3 ⊢
    have e2 : bLp.size = 1 := rfl
    have e3 : bRp.size = 1 := rfl
    rw [e2, e3, show P.length + (1 + T.tx.size + 1) = P.length + (0 + 1) + T.tx.size + 1 by omega]
    have h4 := h1.trans (h2.trans h3)
    exact h4
  · rw [if_neg hk] at hl ⊢
    rw [if_neg hk]
    exact h P S hl hS
theorem text_ok {T : Ty} (h : T.Gd) : TxOk s T := by
  induction h with
  | int => exact fun P S hl hS => w_kw (X := [105, 110, 116]) hl hS (by decide) (by decide) (by intro c hc; cases hc; decide) kw_int
  | bool => exact fun P S hl hS => w_kw (X := [98, 111, 111, 108]) hl hS (by decide) (by decide) (by intro c hc; cases hc; decide) kw_bool
  | @fn a b ha hb iha ihb =>
    intro P S hl hS
    rw [tx_fn] at hl ⊢
    rw [tk_fn]
    rw [bl_app, bl_app] at hl
    have e0 : bl bAr = [32, 45, 62, 32] := rfl
    rw [e0] at hl
    have h1 := br_ok iha P (32 :: 45 :: 62 :: 32 :: (bl b.tx ++ S)) (by rw [hl]; simp) (noIn_cons (by decide))
    have h2 := w_blank (s := s) (P := P ++ bl a.btx) (S := 45 :: 62 :: 32 :: (bl b.tx ++ S)) (by rw [hl]; simp)
    have h3 := w_arrow (s := s) (P := P ++ bl a.btx ++ [32]) (S := 32 :: (bl b.tx ++ S)) (by rw [hl]; simp)
    have h4 := w_blank (s := s) (P := P ++ bl a.btx ++ [32, 45, 62]) (S := (bl b.tx ++ S)) (by rw [hl]; simp)
    have h5 := ihb (P ++ bl a.btx ++ [32, 45, 62, 32]) S (by rw [hl]; simp) hS
    simp only [List.length_append, List.length_cons, List.length_nil, bl_len, ByteArray.size_append] at h1 h2 h3 h4 h5 ⊢
    have e2 : bAr.size = 4 := rfl
    have e3 : a.btk ++ (4, bArrow) :: b.tk = a.btk ++ ([] ++ ([(4, bArrow)] ++ ([] ++ b.tk))) := by simp
    rw [e2, e3, show P.length + (a.btx.size + 4 + b.tx.size) = P.length + a.btx.size + (0 + 1 + 1 + 1 + 1) + b.tx.size by omega]
    exact h1.trans (h2.trans (h3.trans (h4.trans h5)))
  | @tup ps h2 h8 h ih =>
    intro P S hl hS
    rw [tx_tup] at hl ⊢
    rw [tk_tup]
    match ps, h2, ih, hl with
    | p :: qs, h2, ih, hl =>
      rw [bl_app, bl_app, bl_join] at hl
      have hsz : (bLp ++ joinB ((p :: qs).map Ty.btx) bSt ++ bRp).size = 1 + (p.btx.size + (Lib.joinTail (bl bSt) ((qs.map Ty.btx).map bl)).length) + 1 := by
        rw [← bl_len, bl_app, bl_app, bl_join]
        simp only [List.length_append, bl_len]
        rfl
      rw [hsz]
      have e0 : bl bLp = [40] := rfl
      have e1 : bl bRp = [41] := rfl
      rw [e0, e1] at hl
      have h1 := w_sign (s := s) (P := P) (S := bl p.btx ++ (Lib.joinTail (bl bSt) ((qs.map Ty.btx).map bl) ++ (41 :: S))) (c := 40) (by simp) (by rw [hl]; simp)
      have hno : NoIn (Lib.joinTail (bl bSt) ((qs.map Ty.btx).map bl) ++ (41 :: S)) := by
        cases qs with
        | nil => exact noIn_cons (by decide)
        | cons r qs => rw [List.map_cons, List.map_cons, joinTail_cons]; exact noIn_cons (by decide)
      have h3 := br_ok (ih p (by simp)) (P ++ [40]) (Lib.joinTail (bl bSt) ((qs.map Ty.btx).map bl) ++ (41 :: S)) (by rw [hl]; simp) hno
      have h4 := rest_ok qs (P ++ [40] ++ bl p.btx) (41 :: S) (fun r hr => br_ok (ih r (by simp [hr]))) (by rw [hl]; simp) (noIn_cons (by decide))
      have h5 := w_sign (s := s) (P := P ++ [40] ++ bl p.btx ++ Lib.joinTail (bl bSt) ((qs.map Ty.btx).map bl)) (S := S) (c := 41) (by simp) (by rw [hl]; simp)
      simp only [List.length_append, List.length_cons, List.length_nil, bl_len] at h1 h3 h4 h5 ⊢
      have e3 : ((4, bOpen) :: (joinT ((p :: qs).map Ty.btk) ++ [(4, bClose)]) : List Vw) = [(4, bOpen)] ++ (p.btk ++ (flT (qs.map Ty.btk) ++ [(4, bClose)])) := by simp [joinT]
      rw [e3, show P.length + (1 + (p.btx.size + (Lib.joinTail (bl bSt) ((qs.map Ty.btx).map bl)).length) + 1) = P.length + (0 + 1) + p.btx.size + (Lib.joinTail (bl bSt) ((qs.map Ty.btx).map bl)).length + 1 by omega]
      exact h1.trans (h3.trans (h4.trans h5))
theorem words_gd {T : Ty} (h : T.Gd) : ∃ l, wdA T.tx = (l, 0, 0) ∧ l.map vw = T.tk ++ [(0, ByteArray.empty)] := by
  have h1 := text_ok (s := T.tx) h [] [] (by simp) (fun c r e => by cases e)
  obtain ⟨f', out', h2, h3, h4⟩ := h1 (T.tx.size + 1) [] (by simp)
  obtain ⟨g, rfl⟩ : ∃ g, f' = g + 1 := ⟨f' - 1, by omega⟩
  refine ⟨out' ++ [tkEnd T.tx], ?_, ?_⟩
  · unfold wdA
    rw [show wdF T.tx (T.tx.size + 1) 0 [] = _ from h4, wdF, if_neg (by simp)]
  · rw [List.map_append, h3]; rfl
end Go.Proofs.YtnlonnnhofagaaaDoor
namespace Go.Proofs.YtnlonnnhofagaaaDoor
open Go Go.RowKit
set_option maxRecDepth 100000
set_option maxHeartbeats 4000000
set_option linter.unusedSimpArgs false
set_option linter.unusedVariables false
set_option linter.unnecessarySimpa false
attribute [local irreducible] aops dRun
theorem Ty.roomL_cnt : ∀ (ps : List Ty) (n : Int) (d : Nat), (∀ p ∈ ps, ∀ (n : Int) (d : Nat), 0 ≤ n → 0 ≤ p.room n d → p.room n d = n - p.cnt) → 0 ≤ Ty.roomL ps n d → Ty.roomL ps n d = n - Ty.cntL ps
  | [], n, d, _, _ => by simp [Ty.roomL, Ty.cntL]
  | p :: ps, n, d, hp, h => by
    simp only [Ty.roomL] at h ⊢
    by_cases hn : n < 0
    · rw [if_pos hn] at h; omega
    · rw [if_neg hn] at h ⊢
      have h2 : 0 ≤ p.room n d := by
        rcases Int.lt_or_le (p.room n d) 0 with h3 | h3
        · rw [Ty.roomL_neg ps h3] at h; omega
        · exact h3
      have h3 := hp p (by simp) n d (by omega) h2
      have h4 := Ty.roomL_cnt ps (p.room n d) d (fun q hq => hp q (by simp [hq])) h
      simp only [Ty.cntL]; omega
theorem Ty.room_cnt : ∀ (t : Ty) (n : Int) (d : Nat), 0 ≤ n → 0 ≤ t.room n d → t.room n d = n - t.cnt := by
  refine Ty.ind fun t ih => ?_
  intro n d hn h
  cases d with
  | zero => rw [Ty.room_zero] at h; omega
  | succ d =>
    rw [Ty.room_succ] at h ⊢
    have := Ty.roomL_cnt t.ps (n - 1) d ih h
    rw [Ty.cnt_eq]; omega
def Ty.great (t : Ty) : Bool := decide (t.room 300 40 < 0)
theorem Ty.great_cnt {t : Ty} (h : t.great = false) : t.cnt ≤ 300 := by
  simp only [Ty.great, decide_eq_false_iff_not] at h
  have := Ty.room_cnt t 300 40 (by omega) (by omega)
  omega
theorem Great3_pure (T : Ty) : APure Tryd.prog 12 [.agg T.cells] (.v (.bool T.great)) := by
  refine APure.mkL (.cons T.dataAgg .nil) (.v _) ?_
  refine ACalls_intro Tryd.func12 (by kernel_rfl) rfl (by rw [Tryd.ntmps12]; simp) (fun hm => ?_)
  simp only [Tryd.ntmps12, Tryd.results12, List.length_cons, List.length_nil, Nat.reduceAdd, Nat.reduceSub, List.replicate_succ, List.replicate_zero, List.cons_append, List.nil_append]
  simp only [Ty.cells_eq T, List.cons_append, List.nil_append]
  refine AWp_seqK fun Y0 y0 => ?_
  refine AWp_region ?_
  simp only [↓bO, go_sem, seval]
  refine y0 _ ?_
  try clear y0 Y0
  refine AWp_seqK fun Y0 y0 => ?_
  refine AWp_region ?_
  refine aops_chunk 1 fun Q0 q0 => ?_
  simp only [↓bO, go_sem, seval]
  refine q0 _ ?_
  clear q0 Q0
  simp only [go_sem]
  refine aops_chunk 1 fun Q0 q0 => ?_
  simp only [↓bO, go_sem, seval]
  refine APure.call (by have h9 := room_pure T 300 40 (by omega) (by omega) (by omega); rw [Ty.cells_eq T] at h9; exact h9) ?_
  try simp only [bS, bA, thenQ, blockQ, noGotoQ]
  refine q0 _ ?_
  clear q0 Q0
  simp only [go_sem]
  simp only [↓bO, go_sem, seval]
  refine y0 _ ?_
  try clear y0 Y0
  refine AWp_ret ?_
  try simp only [thenQ, blockQ, noGotoQ, retQ, aRes, tupOf, bS, bA]
  exact Le.of_eq (congrArg (fun b => AV.v (.bool b)) rfl)
theorem APure.le {P : Program} {f : Nat} {args args' : List AV} {x : AV} (h : APure P f args' x) (hl : LeL args args') (hd : DataL args) : APure P f args x := ⟨hd, h.2.1, h.2.2.args hl⟩
theorem tokens_back {T : Ty} (h : T.Gd) (hc : T.cnt ≤ 300) : ∃ l : List Tok, wdA T.tx = (l, 0, 0) ∧ rdF l 1000 0 1 = (T, (l.length : Int) - 1, 0) ∧ l.length ≤ 1501 := by
  obtain ⟨l, h1, h2⟩ := words_gd h
  have h3 := h.tk_len
  have h4 : l.length = T.tk.length + 1 := by have h9 := congrArg List.length h2; simpa using h9
  refine ⟨l, h1, ?_, by omega⟩
  have h5 := (read_gd (l := l) (m := 1000) h).1 (l.length + 1) [] [(0, ByteArray.empty)] 1 (by rw [h2]; simp) ⟨_, _, rfl, by decide⟩ (by omega) (by omega)
  unfold rdF
  rw [pl_nil] at h5
  rw [h5]
  simp only [List.nil_append, pl]
  rw [h4]; simp
theorem SignatureTokens_pure (T : Ty) : APure Tryd.prog 5 [.agg T.cells] (.v (.bool true)) := by
  refine APure.mkL (.cons T.dataAgg .nil) (.v _) ?_
  refine ACalls_intro Tryd.func5 (by kernel_rfl) rfl (by rw [Tryd.ntmps5]; simp) (fun hm => ?_)
  simp only [Tryd.ntmps5, Tryd.results5, List.length_cons, List.length_nil, Nat.reduceAdd, Nat.reduceSub, List.replicate_succ, List.replicate_zero, List.cons_append, List.nil_append]
  refine AWp_seqK fun Y0 y0 => ?_
  refine AWp_region ?_
  refine aops_chunk 1 fun Q0 q0 => ?_
  simp only [↓bO, go_sem, seval, Tok.cells]
  refine q0 _ ?_
  clear q0 Q0
  simp only [go_sem]
  simp only [↓bO, go_sem, seval, Tok.cells]
  refine y0 _ ?_
  try clear y0 Y0
  refine AWp_seqK fun Y0 y0 => ?_
  refine AWp_seqK fun Y1 y1 => ?_
  refine AWp_region ?_
  refine aops_chunk 1 fun Q0 q0 => ?_
  simp only [↓bO, go_sem, seval, Tok.cells]
  refine q0 _ ?_
  clear q0 Q0
  simp only [go_sem]
  refine aops_chunk 1 fun Q0 q0 => ?_
  simp only [↓bO, go_sem, seval, Tok.cells]
  refine APure.call (Great3_pure T) ?_
  try simp only [bS, bA, thenQ, blockQ, noGotoQ]
  refine q0 _ ?_
  clear q0 Q0
  simp only [go_sem]
  refine aops_chunk 1 fun Q0 q0 => ?_
  simp only [↓bO, go_sem, seval, Tok.cells]
  refine q0 _ ?_
  clear q0 Q0
  simp only [go_sem]
  refine aops_case 11 rfl (fun hc11 => ?_) (fun hc11 => ?_)
  ·
   simp only [List.set_cons_zero, List.set_cons_succ]
   iterate 9 (refine aops_chunk 1 fun Q0 q0 => ?_; simp only [↓bO, go_sem, seval, Tok.cells]; refine q0 _ ?_; clear q0 Q0; simp only [go_sem])
   simp only [↓bO, go_sem, seval, Tok.cells]
   refine y1 _ ?_
   try clear y1 Y1
   refine AWp_cond (b := true) (by first | exact rfl | exact congrArg (fun b => AV.v (.bool b)) hb21) (fun _ => ?_) (fun h => (by cases h))
   refine AWp_seqK fun Y1 y1 => ?_
   refine AWp_region ?_
   refine aops_chunk 1 fun Q0 q0 => ?_
   simp only [↓bO, go_sem, seval, Tok.cells]
   refine APure.call (awake4_pure) ?_
   try simp only [bS, bA, thenQ, blockQ, noGotoQ]
   refine q0 _ ?_
   clear q0 Q0
   simp only [go_sem]
   simp only [↓bO, go_sem, seval, Tok.cells]
   refine y1 _ ?_
   try clear y1 Y1
   refine AWp_ret ?_
   try simp only [thenQ, blockQ, noGotoQ, retQ, aRes, tupOf, bS, bA]
   first | exact Le.refl _ | (refine Le.of_eq (congrArg (fun b => AV.v (.bool b)) ?_); simp_all [Ty.same_refl]; done)
  ·
   simp only [List.set_cons_zero, List.set_cons_succ]
   refine aops_chunk 1 fun Q0 q0 => ?_
   simp only [↓bO, go_sem, seval, Tok.cells]
   refine q0 _ ?_
   clear q0 Q0
   simp only [go_sem]
   refine aops_chunk 1 fun Q0 q0 => ?_
   simp only [↓bO, go_sem, seval, Tok.cells]
   refine APure.call (RefRight_pure T) ?_
   try simp only [bS, bA, thenQ, blockQ, noGotoQ]
   iterate 3 (refine q0 _ ?_; clear q0 Q0; simp only [go_sem]; refine aops_chunk 1 fun Q0 q0 => ?_; simp only [↓bO, go_sem, seval, Tok.cells])
   refine q0 _ ?_
   clear q0 Q0
   simp only [go_sem]
   refine aops_case 16 rfl (fun hc16 => ?_) (fun hc16 => ?_)
   ·
    simp only [List.set_cons_zero, List.set_cons_succ]
    iterate 4 (refine aops_chunk 1 fun Q0 q0 => ?_; simp only [↓bO, go_sem, seval, Tok.cells]; refine q0 _ ?_; clear q0 Q0; simp only [go_sem])
    simp only [↓bO, go_sem, seval, Tok.cells]
    refine y1 _ ?_
    try clear y1 Y1
    refine AWp_cond (b := true) (by first | exact rfl | exact congrArg (fun b => AV.v (.bool b)) hb21) (fun _ => ?_) (fun h => (by cases h))
    refine AWp_seqK fun Y1 y1 => ?_
    refine AWp_region ?_
    refine aops_chunk 1 fun Q0 q0 => ?_
    simp only [↓bO, go_sem, seval, Tok.cells]
    refine APure.call (awake4_pure) ?_
    try simp only [bS, bA, thenQ, blockQ, noGotoQ]
    refine q0 _ ?_
    clear q0 Q0
    simp only [go_sem]
    simp only [↓bO, go_sem, seval, Tok.cells]
    refine y1 _ ?_
    try clear y1 Y1
    refine AWp_ret ?_
    try simp only [thenQ, blockQ, noGotoQ, retQ, aRes, tupOf, bS, bA]
    first | exact Le.refl _ | (refine Le.of_eq (congrArg (fun b => AV.v (.bool b)) ?_); simp_all [Ty.same_refl]; done)
   ·
    simp only [List.set_cons_zero, List.set_cons_succ]
    refine aops_chunk 1 fun Q0 q0 => ?_
    simp only [↓bO, go_sem, seval, Tok.cells]
    refine q0 _ ?_
    clear q0 Q0
    simp only [go_sem]
    refine aops_chunk 1 fun Q0 q0 => ?_
    simp only [↓bO, go_sem, seval, Tok.cells]
    refine APure.call (by have hc := Ty.great_cnt (show T.great = false by assumption); have h9 := RVars_pure T [] (by simp only [List.length_nil]; omega); exact h9.le ⟨.refl _, Le.slNil 1, trivial⟩ (.cons T.dataAgg (.cons (.v _) .nil))) ?_
    try simp only [bS, bA, thenQ, blockQ, noGotoQ]
    iterate 2 (refine q0 _ ?_; clear q0 Q0; simp only [go_sem]; refine aops_chunk 1 fun Q0 q0 => ?_; simp only [↓bO, go_sem, seval, Tok.cells])
    refine q0 _ ?_
    clear q0 Q0
    simp only [go_sem]
    simp only [↓bO, go_sem, seval, Tok.cells]
    refine y1 _ ?_
    try clear y1 Y1
    refine AWp_cond rfl (fun hb21 => ?_) (fun hb21 => ?_)
    ·
     refine AWp_seqK fun Y1 y1 => ?_
     refine AWp_region ?_
     refine aops_chunk 1 fun Q0 q0 => ?_
     simp only [↓bO, go_sem, seval, Tok.cells]
     refine APure.call (awake4_pure) ?_
     try simp only [bS, bA, thenQ, blockQ, noGotoQ]
     refine q0 _ ?_
     clear q0 Q0
     simp only [go_sem]
     simp only [↓bO, go_sem, seval, Tok.cells]
     refine y1 _ ?_
     try clear y1 Y1
     refine AWp_ret ?_
     try simp only [thenQ, blockQ, noGotoQ, retQ, aRes, tupOf, bS, bA]
     first | exact Le.refl _ | (refine Le.of_eq (congrArg (fun b => AV.v (.bool b)) ?_); simp_all [Ty.same_refl]; done)
    ·
     have hgt : T.great = false := by assumption
     have hc := Ty.great_cnt hgt
     have hr : T.right = true := by simp_all
     have hv : T.rvars [] = [] := by simp_all
     have hgd := Ty.gd_of T hr hv
     have hts := hgd.tx_size
     obtain ⟨l, hw1, hw2, hw3⟩ := tokens_back hgd hc
     have hwl : IntKind.i64.wrap ((l.length : Int) - 1) = (l.length : Int) - 1 := wrap_in (by omega) (by omega)
     refine AWp_skip ?_
     try simp only [thenQ, blockQ, noGotoQ]
     refine y0 _ ?_
     try clear y0 Y0
     refine AWp_seqK fun Y0 y0 => ?_
     refine AWp_region ?_
     refine aops_chunk 1 fun Q0 q0 => ?_
     simp only [↓bO, go_sem, seval, Tok.cells, hwl]
     refine q0 _ ?_
     clear q0 Q0
     simp only [go_sem]
     refine aops_chunk 1 fun Q0 q0 => ?_
     simp only [↓bO, go_sem, seval, Tok.cells, hwl]
     refine APure.call (Print_pure T hr hgd (by omega)) ?_
     try simp only [bS, bA, thenQ, blockQ, noGotoQ]
     refine q0 _ ?_
     clear q0 Q0
     simp only [go_sem]
     refine aops_chunk 1 fun Q0 q0 => ?_
     simp only [↓bO, go_sem, seval, Tok.cells, hwl]
     refine APure.call (by have h9 := RWords_pure T.tx (by omega); rw [hw1] at h9; exact h9) ?_
     try simp only [bS, bA, thenQ, blockQ, noGotoQ]
     iterate 6 (refine q0 _ ?_; clear q0 Q0; simp only [go_sem]; refine aops_chunk 1 fun Q0 q0 => ?_; simp only [↓bO, go_sem, seval, Tok.cells, hwl])
     refine q0 _ ?_
     clear q0 Q0
     simp only [go_sem]
     simp only [↓bO, go_sem, seval, Tok.cells, hwl]
     refine y0 _ ?_
     try clear y0 Y0
     refine AWp_seqK fun Y0 y0 => ?_
     refine AWp_region ?_
     refine aops_chunk 1 fun Q0 q0 => ?_
     simp only [↓bO, go_sem, seval, Tok.cells, hwl]
     refine q0 _ ?_
     clear q0 Q0
     simp only [go_sem]
     refine aops_chunk 1 fun Q0 q0 => ?_
     simp only [↓bO, go_sem, seval, Tok.cells, hwl]
     refine APure.call (by have h9 := Read_pure l 1000 0 1 (by omega) (by omega) (by omega); rw [hw2] at h9; exact h9) ?_
     try simp only [bS, bA, thenQ, blockQ, noGotoQ]
     iterate 7 (refine q0 _ ?_; clear q0 Q0; simp only [go_sem]; refine aops_chunk 1 fun Q0 q0 => ?_; simp only [↓bO, go_sem, seval, Tok.cells, hwl])
     refine q0 _ ?_
     clear q0 Q0
     simp only [go_sem]
     simp only [↓bO, go_sem, seval, Tok.cells, hwl]
     refine y0 _ ?_
     try clear y0 Y0
     refine AWp_seqK fun Y0 y0 => ?_
     refine AWp_region ?_
     iterate 3 (refine aops_chunk 1 fun Q0 q0 => ?_; simp only [↓bO, go_sem, seval, Tok.cells, hwl]; refine q0 _ ?_; clear q0 Q0; simp only [go_sem])
     refine aops_case 38 rfl (fun hc38 => ?_) (fun hc38 => ?_)
     ·
      simp only [List.set_cons_zero, List.set_cons_succ]
      iterate 4 (refine aops_chunk 1 fun Q0 q0 => ?_; simp only [↓bO, go_sem, seval, Tok.cells, hwl]; refine q0 _ ?_; clear q0 Q0; simp only [go_sem])
      refine aops_case 42 rfl (fun hc42 => ?_) (fun hc42 => ?_)
      ·
       simp only [List.set_cons_zero, List.set_cons_succ]
       iterate 7 (refine aops_chunk 1 fun Q0 q0 => ?_; simp only [↓bO, go_sem, seval, Tok.cells, hwl]; refine q0 _ ?_; clear q0 Q0; simp only [go_sem])
       refine aops_case 49 rfl (fun hc49 => ?_) (fun hc49 => ?_)
       ·
        simp only [List.set_cons_zero, List.set_cons_succ]
        iterate 2 (refine aops_chunk 1 fun Q0 q0 => ?_; simp only [↓bO, go_sem, seval, Tok.cells, hwl]; refine q0 _ ?_; clear q0 Q0; simp only [go_sem])
        refine aops_chunk 1 fun Q0 q0 => ?_
        simp only [↓bO, go_sem, seval, Tok.cells, hwl]
        refine APure.call (Same_pure T T) ?_
        try simp only [bS, bA, thenQ, blockQ, noGotoQ]
        iterate 2 (refine q0 _ ?_; clear q0 Q0; simp only [go_sem]; refine aops_chunk 1 fun Q0 q0 => ?_; simp only [↓bO, go_sem, seval, Tok.cells, hwl])
        refine q0 _ ?_
        clear q0 Q0
        simp only [go_sem]
        refine aops_case 54 rfl (fun hc54 => ?_) (fun hc54 => ?_)
        ·
         simp only [List.set_cons_zero, List.set_cons_succ]
         refine aops_chunk 1 fun Q0 q0 => ?_
         simp only [↓bO, go_sem, seval, Tok.cells, hwl]
         refine APure.call (awake4_pure) ?_
         try simp only [bS, bA, thenQ, blockQ, noGotoQ]
         refine q0 _ ?_
         clear q0 Q0
         simp only [go_sem]
         refine aops_chunk 1 fun Q0 q0 => ?_
         simp only [↓bO, go_sem, seval, Tok.cells, hwl]
         refine q0 _ ?_
         clear q0 Q0
         simp only [go_sem]
         simp only [↓bO, go_sem, seval, Tok.cells, hwl]
         refine y0 _ ?_
         try clear y0 Y0
         refine AWp_ret ?_
         try simp only [thenQ, blockQ, noGotoQ, retQ, aRes, tupOf, bS, bA]
         first | exact Le.refl _ | (refine Le.of_eq (congrArg (fun b => AV.v (.bool b)) ?_); simp_all [Ty.same_refl]; done)
        ·
         simp only [List.set_cons_zero, List.set_cons_succ]
         exact absurd hc54 (by simp [Ty.same_refl])
       ·
        simp only [List.set_cons_zero, List.set_cons_succ]
        exact absurd hc49 (by simp [Ty.same_refl])
      ·
       simp only [List.set_cons_zero, List.set_cons_succ]
       exact absurd hc42 (by simp [Ty.same_refl])
     ·
      simp only [List.set_cons_zero, List.set_cons_succ]
      exact absurd hc38 (by simp [Ty.same_refl])
end Go.Proofs.YtnlonnnhofagaaaDoor
namespace Go.Proofs.YtnlonnnhofagaaaDoor.signatureTokens
open Go Go.ChangeShapes Go.WideShapes Go.ChangeAt Go.RowKit
set_option linter.unusedVariables false
set_option linter.unnecessarySimpa false
theorem own : ownKnob Tryd.prog.godebug = none := by kernel_rfl
theorem laidOut : laidOutB Tryd.prog = true := by kernel_rfl
theorem cT : Tryd.prog.cellsOf 28 = 3 := by kernel_rfl
theorem cI : Tryd.prog.cellsOf 3 = 1 := by kernel_rfl
theorem cS : Tryd.prog.cellsOf 26 = 1 := by kernel_rfl
section
variable {H : Type} {enc : TypeId × Value → H} {w : World} {base : Nat} {spare : Nat → Bool} {held : Bool}
theorem rdT (fuel : Nat) : Rd enc Tryd.prog w base spare held Env.none fuel 28 Ty.cells :=
  rd_ty Tryd.underlying28 cT rfl rfl rfl rfl rfl rfl Tryd.underlying3 cI Tryd.underlying26 cS fuel
theorem rdS (fuel : Nat) : Rd enc Tryd.prog w base spare held Env.none fuel 26 (fun xs : List Ty => [.sl 3 (xs.map Ty.cells)]) :=
  rd_slice Tryd.underlying26 cT (by omega) Ty.cells_len fun n _ => rdT n
end
set_option maxRecDepth 100000 in
theorem lifted (os : Go.Os) (started : os.Started) (H : Type) (enc : TypeId × Value → H) :
    ReturnsInHanded {} Tryd.checked os 5 .any (fun w args => (Rows.signatureTokensSpec.pre enc Tryd.prog Tryd.f5 Rows.signatureTokensRow.domain false w args ∧ laidMetH Tryd.prog Rows.signatureTokensRow.laid w) ∧ sizedMet enc Tryd.prog Tryd.f5 (OpenSpec.ofChange Rows.signatureTokensSpec) false w args)
      (Rows.signatureTokensSpec.post enc Tryd.prog Tryd.f5 false true false false) := by
  refine returnsInHanded_of_change_and (C := Tryd.checked) (X := fun w _ => laidMetH Tryd.prog Rows.signatureTokensRow.laid w) (fun _ _ _ hh h => h.of_heap hh) own started (by kernel_rfl) Tryd.func5
    (ChangeSpec.witness_shaped (enc := enc) (C := Tryd.checked) (os := os) (X := fun w _ => laidMetH Tryd.prog Rows.signatureTokensRow.laid w) false (World.laidAll Tryd.prog os Rows.signatureTokensRow.laid) #[.agg #[.int .i64 0, .int .i64 0, .slice none 0 0]] 8 (World.laidAll_os _ _ _)
      (World.shaped_of_ZipB (by kernel_rfl) (by kernel_rfl)) (by kernel_rfl) (by kernel_rfl) (by kernel_rfl)
      (by rw [MakeChecks.laidMetH_plain _ _ _ (by kernel_rfl)]; exact laidMet_laidAll _ (by kernel_rfl) (by kernel_rfl))) ?_
  intro W base args ds gs before hval0 hW hcnd _ hL _
  have hlaid : laidMet Tryd.prog Rows.signatureTokensRow.laid W := by have h := hL; rw [MakeChecks.laidMetH_plain _ _ _ (by kernel_rfl)] at h; exact h
  have hgl : Gl (fun _ _ => False) W := by
    intro p hp
    have hp : p ∈ [(0, gv0), (3, gv3)] := hp
    rcases List.mem_cons.1 hp with rfl | hp
    · refine gl_one (Lib.tabIs_of_head (zs := gz0) (k := .u8) (g := 0) (t := 102) (e := 5) (n := 256) (rest := []) (name := "strings.asciiSpace") (by kernel_rfl) (by kernel_rfl) Tryd.underlying102 Tryd.underlying5 (by kernel_rfl) (by kernel_rfl) ?_) (by kernel_rfl) rfl
      have h := hlaid.filter (fun x => x.1 == "strings.asciiSpace")
      rw [show (Rows.signatureTokensRow.laid.filter fun x => x.1 == "strings.asciiSpace") = [("strings.asciiSpace", Lib.tabData .u8 gz0)] from by kernel_rfl] at h
      exact h
    rcases List.mem_cons.1 hp with rfl | hp
    · refine gl_one (Lib.tabIs_of_head (zs := gz3) (k := .u64) (g := 3) (t := 141) (e := 117) (n := 20) (rest := []) (name := "internal/strconv.uint64pow10") (by kernel_rfl) (by kernel_rfl) Tryd.underlying141 Tryd.underlying117 (by kernel_rfl) (by kernel_rfl) ?_) (by kernel_rfl) rfl
      have h := hlaid.filter (fun x => x.1 == "internal/strconv.uint64pow10")
      rw [show (Rows.signatureTokensRow.laid.filter fun x => x.1 == "internal/strconv.uint64pow10") = [("internal/strconv.uint64pow10", Lib.tabData .u64 gz3)] from by kernel_rfl] at h
      exact h
    cases hp
  have hval : ∀ (j : Nat) t v, Tryd.f5.params[j]? = some t → args[j]? = some v → Value.okWide Tryd.prog W .any base t v := hval0
  have hW' := hW
  obtain ⟨p, q, hA0, hV, rfl, hfz, hnd⟩ := hW
  have hA : DataW.TrodAll enc Tryd.prog W 0 (fun _ => true) true Tryd.f5.params.toList args.toList ds p := hA0
  rw [Tryd.params5] at hA hval
  obtain ⟨v0, vs0, d0, ds0, p0, q0, hargs, rfl, rfl, h0, r0⟩ := trodAll_cons hA
  obtain ⟨rfl, rfl, rfl⟩ := trodAll_nil r0
  obtain rfl : args = #[v0] := by cases args; simp_all
  obtain ⟨rfl, rfl⟩ := trodVars_none hV
  have k0 := h0
  have lt0 : ∀ x ∈ p0, x.block < W.heap.size := by obtain ⟨m, hm⟩ := k0; exact DataW.trod_lt m _ _ _ hm
  obtain ⟨us0, hus0⟩ : ∃ us, v0 = .agg us := (by obtain ⟨cs, h, _⟩ := okWide_struct Tryd.underlying28 (hval 0 28 v0 rfl rfl); exact ⟨cs, h⟩)
  subst hus0
  obtain ⟨T0, hr0⟩ : ∃ T : Ty, Rp Env.none (fun _ _ => False) W (.agg T.cells) (.agg us0) := by
    obtain ⟨m, hm⟩ := h0
    obtain ⟨T, hl, hr⟩ := rdT m _ _ hm
    exact ⟨T, .agg (by simpa [Value.cells] using hl) fun i c u hc hu => hr i c u hc (by simpa [Value.cells] using hu)⟩
  clear hA0 hval0
  refine ((SignatureTokens_pure T0).calls (w := W) rfl ?_ hgl).mono fun e W' ⟨he, bel⟩ => ?_
  · intro i c u hc hu
    match i with
    | 0 => simp at hc hu; subst hc; subst hu; exact hr0
    | i + 1 => simp at hc
  subst he
  exact ⟨_, rfl, _, _, _, [], _, [], hW', trodAll_mk1 (shut_bool Tryd.underlying4 _), (trodAll_cons_mk (Below.trod laidOut (by kernel_rfl) (of_decide_eq_true (by kernel_rfl)) k0 bel lt0) trodAll_mk0), rfl, bel.frame _, fun h => by cases h⟩
theorem over : Rows.signatureTokensRow.holds Tryd.pinned (OpenSpec.ofChange Rows.signatureTokensSpec) :=
  OpenClaim.holds_of_wide 5 Tryd.f5 rfl rfl rfl rfl rfl rfl rfl ⟨rfl, rfl, rfl, rfl, rfl⟩ rfl rfl rfl rfl rfl (by kernel_rfl) Tryd.func5 (by kernel_rfl)
    (of_decide_eq_true (by kernel_rfl)) (by unfold Func.isWrapper; first | (rw [if_pos (by decide +kernel)]; kernel_rfl) | (rw [if_neg (by decide +kernel)]; exact ⟨rfl, rfl⟩))
    (fun os started H enc _ => lifted os started H enc)
end Go.Proofs.YtnlonnnhofagaaaDoor.signatureTokens
namespace Go.Proofs.YtnlonnnhofagaaaDoor
theorem signatureTokens_proved : Rows.SignatureTokensCardSaid :=
  Claim7.holds_tied_plain_at .later [] _ _ _ _ signatureTokens.over (fun _ h => by cases h) (by kernel_rfl) (fun _ h => by cases h) signatureTokens_row_tie rfl ⟨rfl, rfl⟩ (by kernel_rfl) rfl
    (fun f fn hf hfn => by
      obtain rfl : f = 5 := Option.some.inj ((show Tryd.prog.funcNamed "pangram/pangramlaw04.SignatureTokens" = some 5 by kernel_rfl).symm.trans hf) |>.symm
      obtain rfl : fn = Tryd.f5 := (Option.some.inj (Tryd.func5.symm.trans hfn)).symm
      refine ⟨by kernel_rfl, fun j t ht => ?_⟩
      rw [Tryd.params5] at ht
      have hm : t ∈ [28] := by simpa using Array.mem_of_getElem? ht
      have hall : ([28].all fun u => !Tryd.prog.wantsStandIn u) = true := by kernel_rfl
      have := List.all_eq_true.1 hall t hm
      have h9 : Tryd.prog.wantsStandIn t = false := by simpa using this
      exact h9)
    (by kernel_rfl)
#print axioms signatureTokens_proved
end Go.Proofs.YtnlonnnhofagaaaDoor
