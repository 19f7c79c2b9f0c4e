/- Texts of the abstract walk, of the contracts and of the plain laws, packed (part 40 of 40): Sg21 Sg22 Sg16 TrL Sg23 Sg24 Fparses. Conditions: none. -/
import Derived.Test.YtkokfdmggdhfmaaDoorPk39
import Derived.Lib.AtoiErrMem
import Derived.Test.YtkokfdmggdhfmaaDoorCards
import Derived.Test.YtkokfdmggdhfmaaDoorTie
import Derived.ChangeMaps5
import Derived.LaidSub
import Derived.Lib.LaidTab
import Derived.Stop.LaidErr
import Derived.OpenShut
import Derived.ChangeOld
import Derived.Below
import Derived.LaidMore
import Derived.Lay
import Derived.SevenTiedAt
namespace Go.Proofs.YtkokfdmggdhfmaaDoor
open Go Go.RowKit
set_option maxRecDepth 100000
set_option maxHeartbeats 4000000
set_option linter.unusedSimpArgs false
set_option linter.unnecessarySimpa false
set_option linter.unusedVariables false
attribute [local irreducible] aops dRun
theorem ACalls.ofCallsE {P : Program} {f : Nat} {args : List AV} {S : AV → Prop} (hb : HasBody P f)
    (h : ∀ (E : Env) (A : Nat → Nat → Prop) (w : World) (vs : Array Value), Gl A w → (∀ b o, A b o → b < w.heap.size) → RpL E A w args vs → Calls P f vs w fun e w' => ∃ x v, S x ∧ e = .returned v ∧ Below w.heap.size w w' ∧ Rp E A w' x v)
    {os : Os} {nx : Nat} {Q : AV → Os → Nat → Prop} (hq : ∀ x, S x → Q x os nx) : ACalls P f args os nx Q := by
  refine ⟨hb, fun A0 E w vs hos hnx hr => (h E (AvX A0 E os) w vs hos.gl (fun b o ha => hos.lt ha) hr).mono ?_⟩
  rintro e w' ⟨x, v, hs, rfl, hbl, hrv⟩
  exact ⟨x, v, os, nx, E, rfl, hq x hs, hrv, hos.keep hbl, hnx, .refl E, .of_below hbl, fun b o ha => .inl ha⟩
theorem rp_two {E : Env} {A : Nat → Nat → Prop} {w : World} (a b : Value) : Rp E A w (.tup [.v a, .v b]) (.tuple #[a, b]) := by
  refine .tup rfl fun i c u hc hu => ?_
  match i, hc, hu with
  | 0, hc, hu => cases hc; cases hu; exact .v _
  | 1, hc, hu => cases hc; cases hu; exact .v _
theorem Atoi_ok_pure (s : ByteArray) (hs : s.size ≤ 1048576) (v : Int) (h : Lib.atoiAll (bl s) = .ok v) : APure Tryd.prog 72 [.v (.string s)] (.tup [.v (.int .i64 v), .v .nilIface]) := by
  refine APure.ofCalls ⟨_, Tryd.func72, by kernel_rfl, by kernel_rfl⟩ (.cons (.v _) .nil) (.tup (.cons (.v _) (.cons (.v _) .nil))) fun E A w vs hgl hA hr => ?_
  obtain ⟨u, rfl, h1⟩ := hr.one
  cases h1
  refine (Tryd.strconv_Atoi_ok s (by omega) v h w).mono ?_
  rintro e w' ⟨rfl, hw⟩
  refine ⟨_, rfl, ?_, .tup rfl fun i c u hc hu => ?_⟩
  · rcases hw with rfl | ⟨t, rfl⟩
    · exact Below.refl _ _
    · exact Lib.bytesWorld_below w _ _
  match i, hc, hu with
  | 0, hc, hu => cases hc; cases hu; exact .v _
  | 1, hc, hu => cases hc; cases hu; exact .v _
theorem Atoi_no (s : ByteArray) (hs : s.size ≤ 1048576) (h : ∀ v, Lib.atoiAll (bl s) ≠ .ok v) {os : Os} {nx : Nat} {Q : AV → Os → Nat → Prop} (hq : ∀ (v : Int) (t : TypeId) (p : Value), Q (.tup [.v (.int .i64 v), .v (.iface t p)]) os nx) :
    ACalls Tryd.prog 72 [.v (.string s)] os nx Q := by
  refine ACalls.ofCallsE (S := fun x => ∃ (v : Int) (t : TypeId) (p : Value), x = .tup [.v (.int .i64 v), .v (.iface t p)]) ⟨_, Tryd.func72, by kernel_rfl, by kernel_rfl⟩ (fun E A w vs hgl hA hr => ?_) ?_
  · obtain ⟨u, rfl, h1⟩ := hr.one
    cases h1
    obtain ⟨ts, ps, hvs⟩ := hgl.err ge_mem3 (name := "strconv.ErrSyntax") (P := Tryd.prog) (by kernel_rfl)
    obtain ⟨tr, pr, hvr⟩ := hgl.err ge_mem4 (name := "strconv.ErrRange") (P := Tryd.prog) (by kernel_rfl)
    cases hc : Lib.atoiAll (bl s) with
    | ok v => exact absurd hc (h v)
    | «syntax» =>
      refine (Tryd.strconv_Atoi_syntax_var s (by omega) hc ts ps w hvs).mono ?_
      rintro e w' ⟨N, rfl, _, _, hb⟩
      exact ⟨_, _, ⟨_, _, _, rfl⟩, rfl, hb, rp_two _ _⟩
    | range =>
      refine (Tryd.strconv_Atoi_range_var s (by omega) hc tr pr w hvr).mono ?_
      rintro e w' ⟨N, rfl, _, _, hb⟩
      exact ⟨_, _, ⟨_, _, _, rfl⟩, rfl, hb, rp_two _ _⟩
  · rintro x ⟨v, t, p, rfl⟩; exact hq v t p
def nmA (n : Int) : ByteArray := if 0 ≤ n ∧ n < 1073741824 then nmB n else ByteArray.empty
theorem NameA_pure (n : Int) : APure Tryd.prog 36 [.v (.int .i64 n)] (.v (.string (nmA n))) := by
  unfold nmA
  by_cases h : 0 ≤ n ∧ n < 1073741824
  · rw [if_pos h]; exact Name_pure n h.1 h.2
  · rw [if_neg h]; exact Name_no_pure n h
theorem nu_parts {s : ByteArray} (h : 0 ≤ nuR s) : nuR s < 1073741824 ∧ 2 ≤ s.size ∧ bt s 0 = 39 ∧ 97 ≤ bt s 1 ∧ bt s 1 ≤ 122 ∧ bt s 1 = 97 + nuR s % 26 ∧ (s.size ≤ 2 → nuR s < 26) ∧ (2 < s.size → 26 ≤ nuR s ∧ Lib.atoiAll (bl (s.extract 2 s.size)) = .ok (nuR s / 26)) := by
  obtain ⟨h1, h2⟩ := nm_nuR h
  obtain ⟨n, hn⟩ : ∃ n : Nat, nuR s = n := ⟨(nuR s).toNat, by omega⟩
  rw [hn] at h1 h2 ⊢
  have h39 : ((39 : UInt8).toNat : Int) = 39 := rfl
  have hc : ∀ m : Nat, m < 26 → ((UInt8.ofNat (97 + m)).toNat : Int) = 97 + m := fun m hm => by simp; omega
  have hn2 : n < 1073741824 := by omega
  by_cases h9 : n < 26
  · have hb := nm_small h9
    rw [h2] at hb
    have hsz : s.size = 2 := by rw [← bl_len, hb]; rfl
    have b0 := bl_bt (s := s) (i := 0) (c := 39) (by rw [hb]; rfl)
    have b1 := bl_bt (s := s) (i := 1) (c := UInt8.ofNat (97 + n)) (by rw [hb]; rfl)
    rw [h39] at b0; rw [hc n h9] at b1
    exact ⟨h1, by omega, b0, by omega, by omega, by omega, fun _ => by omega, fun _ => by omega⟩
  · have hb := nm_great h9
    rw [h2] at hb
    have hp := dec_pos (n / 26)
    have hsz : s.size = 2 + (Lib.decDigits (n / 26)).length := by rw [← bl_len, hb]; simp; omega
    have hpl : 0 < (Lib.decDigits (n / 26)).length := List.length_pos_iff.2 hp
    have b0 := bl_bt (s := s) (i := 0) (c := 39) (by rw [hb]; rfl)
    have b1 := bl_bt (s := s) (i := 1) (c := UInt8.ofNat (97 + n % 26)) (by rw [hb]; rfl)
    rw [h39] at b0; rw [hc _ (by omega)] at b1
    refine ⟨h1, by omega, b0, by omega, by omega, by omega, fun _ => by omega, fun _ => ⟨by omega, ?_⟩⟩
    have h5 := ex_at (s := s) (P := [39, UInt8.ofNat (97 + n % 26)]) (X := Lib.decDigits (n / 26)) (S := []) (by rw [hb]; simp)
    simp only [List.length_cons, List.length_nil] at h5
    rw [show 0 + 1 + 1 + (Lib.decDigits (n / 26)).length = s.size by omega, show 0 + 1 + 1 = 2 from rfl] at h5
    rw [h5]
    show Lib.atoiAll (Lib.decDigits (n / 26)) = _
    rw [atoi_dec (by omega)]
    congr 1
theorem pw_neg {s : ByteArray} (h : nuR s < 0) : Le (.tup [.v (.int .i64 0), .v (.bool false)]) (.tup [.v (.int .i64 (pwNum s)), .v (.bool (decide (0 ≤ nuR s)))]) := by
  unfold pwNum
  rw [if_neg (by omega), decide_eq_false (by omega)]; exact .refl _
theorem pw_num {s : ByteArray} {n : Int} (h : nuR s = n) (h0 : 0 ≤ n) : Le (.tup [.v (.int .i64 n), .v (.bool true)]) (.tup [.v (.int .i64 (pwNum s)), .v (.bool (decide (0 ≤ nuR s)))]) := by
  unfold pwNum
  rw [if_pos (by omega), decide_eq_true (by omega), h]; exact .refl _
theorem nu_name {s : ByteArray} {n : Int} (h : eqS (nmA n) s = true) (hs : 2 ≤ s.size) : nuR s = n ∧ 0 ≤ n := by
  have h1 := eqS_iff.1 h
  unfold nmA at h1
  split at h1
  · rename_i hn
    have h2 := nuR_nm (n := n.toNat) (by omega)
    rw [show ((n.toNat : Nat) : Int) = n by omega, h1] at h2
    exact ⟨h2, hn.1⟩
  · rw [← h1] at hs
    have : ByteArray.empty.size = 0 := rfl
    omega
theorem nu_noname {s : ByteArray} {n : Int} (h : eqS (nmA n) s = false) (hn : 0 ≤ nuR s → nuR s = n) : nuR s < 0 := by
  rcases Int.lt_or_le (nuR s) 0 with h1 | h1
  · exact h1
  · have h2 := nm_nuR h1
    have h3 : eqS (nmA n) s = true := eqS_iff.2 (by unfold nmA; rw [← hn h1, if_pos ⟨h1, h2.1⟩]; exact h2.2)
    rw [h] at h3; cases h3
theorem eqS_ne {a b : ByteArray} (h : (!eqS a b) = true) : eqS a b = false := by simpa only [Bool.not_eq_true'] using h
theorem eqS_nn {a b : ByteArray} (h : (!eqS a b) = false) : eqS a b = true := by simpa only [Bool.not_eq_false'] using h
theorem neg_of {s : ByteArray} (h : 0 ≤ nuR s → False) : nuR s < 0 := by
  rcases Int.lt_or_le (nuR s) 0 with h1 | h1
  · exact h1
  · exact (h h1).elim
theorem pw_idx (c : Fin 256) : decide (0 ≤ Lib.indexByte ([39, 97, 98, 99, 100, 101, 102, 103, 104, 105, 106, 107, 108, 109, 110, 111, 112, 113, 114, 115, 116, 117, 118, 119, 120, 121, 122, 48, 49, 50, 51, 52, 53, 54, 55, 56, 57] : List UInt8) (Int.toNat (c.val : Int)).toUInt8) = pwIn (c.val : Int) := by revert c; decide
theorem pw_idx2 (s : ByteArray) (i : Nat) : decide (0 ≤ Lib.indexByte ([39, 97, 98, 99, 100, 101, 102, 103, 104, 105, 106, 107, 108, 109, 110, 111, 112, 113, 114, 115, 116, 117, 118, 119, 120, 121, 122, 48, 49, 50, 51, 52, 53, 54, 55, 56, 57] : List UInt8) (Int.toNat (bt s i)).toUInt8) = pwIn (bt s i) := by
  have h := bt_range s i
  have h2 := pw_idx ⟨(bt s i).toNat, by omega⟩
  have e : (((bt s i).toNat : Nat) : Int) = bt s i := by omega
  simp only [e] at h2
  exact h2
theorem Number_ok (s : ByteArray) (hs : s.size ≤ 1048576) (v : Int) (hv : Lib.atoiAll (bl (s.extract 2 s.size)) = .ok v) : APure Tryd.prog 55 [.v (.string s)] (.tup [.v (.int .i64 (pwNum s)), .v (.bool (decide (0 ≤ nuR s)))]) := by
  refine APure.mkL (.cons (.v _) .nil) (.tup (.cons (.v _) (.cons (.v _) .nil))) ?_
  refine ACalls_intro Tryd.func55 (by kernel_rfl) rfl (by rw [Tryd.ntmps55]; simp) (fun hm => ?_)
  simp only [Tryd.ntmps55, Tryd.results55, List.length_cons, List.length_nil, Nat.reduceAdd, Nat.reduceSub, List.replicate_succ, List.replicate_zero, List.cons_append, List.nil_append]
  have hb0 := bt_range s 0
  have hb1 := bt_range s 1
  have hc0 : ((((s[0]?).getD 0).toNat : Nat) : Int) = bt s 0 := rfl
  have hc1 : ((((s[1]?).getD 0).toNat : Nat) : Int) = bt s 1 := rfl
  have hvb := Lib.atoiAll_bounds hv
  refine AWp_seqK fun Y0 y0 => ?_
  refine AWp_region ?_
  refine aops_chunk 1 fun Q0 q0 => ?_
  simp only [↓bO, go_sem, seval, hc0, hc1]
  refine q0 _ ?_
  clear q0 Q0
  simp only [go_sem]
  simp only [↓bO, go_sem, seval, hc0, hc1]
  refine y0 _ ?_
  try clear y0 Y0
  refine AWp_seqK fun Y0 y0 => ?_
  refine AWp_seqK fun Y1 y1 => ?_
  refine AWp_region ?_
  iterate 4 (refine aops_chunk 1 fun Q0 q0 => ?_; simp only [↓bO, go_sem, seval, hc0, hc1]; refine q0 _ ?_; clear q0 Q0; simp only [go_sem])
  refine aops_case 10 rfl (fun hc10 => ?_) (fun hc10 => ?_)
  ·
   simp only [List.set_cons_zero, List.set_cons_succ]
   have hneg : nuR s < 0 := neg_of fun h => by (have g := nu_parts h; have h9 := hc10; simp at h9; omega)
   iterate 13 (refine aops_chunk 1 fun Q0 q0 => ?_; simp only [↓bO, go_sem, seval, hc0, hc1]; refine q0 _ ?_; clear q0 Q0; simp only [go_sem])
   simp only [↓bO, go_sem, seval, hc0, hc1]
   refine y1 _ ?_
   try clear y1 Y1
   refine AWp_cond (b := true) (by first | exact rfl | exact congrArg (fun b => AV.v (.bool b)) hb24) (fun _ => ?_) (fun h => (by cases h))
   refine AWp_seqK fun Y1 y1 => ?_
   refine AWp_region ?_
   refine aops_chunk 1 fun Q0 q0 => ?_
   simp only [↓bO, go_sem, seval, hc0, hc1]
   refine q0 _ ?_
   clear q0 Q0
   simp only [go_sem]
   simp only [↓bO, go_sem, seval, hc0, hc1]
   refine y1 _ ?_
   try clear y1 Y1
   refine AWp_ret ?_
   try simp only [thenQ, blockQ, noGotoQ, retQ, aRes, tupOf, bS, bA]
   exact pw_neg hneg
  ·
   simp only [List.set_cons_zero, List.set_cons_succ]
   have h2 : 2 ≤ s.size := by (have h9 := hc10; simp at h9; omega)
   have hl0 : ((0 : Int) < (s.size : Int)) = True := eq_true (by omega)
   have hl1 : ((1 : Int) < (s.size : Int)) = True := eq_true (by omega)
   iterate 5 (refine aops_chunk 1 fun Q0 q0 => ?_; simp only [↓bO, go_sem, seval, hc0, hc1, hl0, hl1]; refine q0 _ ?_; clear q0 Q0; simp only [go_sem])
   refine aops_case 15 rfl (fun hc15 => ?_) (fun hc15 => ?_)
   ·
    simp only [List.set_cons_zero, List.set_cons_succ]
    have hneg : nuR s < 0 := neg_of fun h => by (have g := nu_parts h; have h9 := hc15; simp at h9; omega)
    iterate 8 (refine aops_chunk 1 fun Q0 q0 => ?_; simp only [↓bO, go_sem, seval, hc0, hc1, hl0, hl1]; refine q0 _ ?_; clear q0 Q0; simp only [go_sem])
    simp only [↓bO, go_sem, seval, hc0, hc1, hl0, hl1]
    refine y1 _ ?_
    try clear y1 Y1
    refine AWp_cond (b := true) (by first | exact rfl | exact congrArg (fun b => AV.v (.bool b)) hb24) (fun _ => ?_) (fun h => (by cases h))
    refine AWp_seqK fun Y1 y1 => ?_
    refine AWp_region ?_
    refine aops_chunk 1 fun Q0 q0 => ?_
    simp only [↓bO, go_sem, seval, hc0, hc1, hl0, hl1]
    refine q0 _ ?_
    clear q0 Q0
    simp only [go_sem]
    simp only [↓bO, go_sem, seval, hc0, hc1, hl0, hl1]
    refine y1 _ ?_
    try clear y1 Y1
    refine AWp_ret ?_
    try simp only [thenQ, blockQ, noGotoQ, retQ, aRes, tupOf, bS, bA]
    exact pw_neg hneg
   ·
    simp only [List.set_cons_zero, List.set_cons_succ]
    iterate 5 (refine aops_chunk 1 fun Q0 q0 => ?_; simp only [↓bO, go_sem, seval, hc0, hc1, hl0, hl1]; refine q0 _ ?_; clear q0 Q0; simp only [go_sem])
    refine aops_case 20 rfl (fun hc20 => ?_) (fun hc20 => ?_)
    ·
     simp only [List.set_cons_zero, List.set_cons_succ]
     have hneg : nuR s < 0 := neg_of fun h => by (have g := nu_parts h; have h9 := hc20; simp at h9; omega)
     iterate 3 (refine aops_chunk 1 fun Q0 q0 => ?_; simp only [↓bO, go_sem, seval, hc0, hc1, hl0, hl1]; refine q0 _ ?_; clear q0 Q0; simp only [go_sem])
     simp only [↓bO, go_sem, seval, hc0, hc1, hl0, hl1]
     refine y1 _ ?_
     try clear y1 Y1
     refine AWp_cond (b := true) (by first | exact rfl | exact congrArg (fun b => AV.v (.bool b)) hb24) (fun _ => ?_) (fun h => (by cases h))
     refine AWp_seqK fun Y1 y1 => ?_
     refine AWp_region ?_
     refine aops_chunk 1 fun Q0 q0 => ?_
     simp only [↓bO, go_sem, seval, hc0, hc1, hl0, hl1]
     refine q0 _ ?_
     clear q0 Q0
     simp only [go_sem]
     simp only [↓bO, go_sem, seval, hc0, hc1, hl0, hl1]
     refine y1 _ ?_
     try clear y1 Y1
     refine AWp_ret ?_
     try simp only [thenQ, blockQ, noGotoQ, retQ, aRes, tupOf, bS, bA]
     exact pw_neg hneg
    ·
     simp only [List.set_cons_zero, List.set_cons_succ]
     have h97 : 97 ≤ bt s 1 := by (have h9 := hc20; simp at h9; omega)
     iterate 3 (refine aops_chunk 1 fun Q0 q0 => ?_; simp only [↓bO, go_sem, seval, hc0, hc1, hl0, hl1]; refine q0 _ ?_; clear q0 Q0; simp only [go_sem])
     simp only [↓bO, go_sem, seval, hc0, hc1, hl0, hl1]
     refine y1 _ ?_
     try clear y1 Y1
     refine AWp_cond rfl (fun hb24 => ?_) (fun hb24 => ?_)
     ·
      have hneg : nuR s < 0 := neg_of fun h => by (have g := nu_parts h; have h9 := hb24; simp at h9; omega)
      refine AWp_seqK fun Y1 y1 => ?_
      refine AWp_region ?_
      refine aops_chunk 1 fun Q0 q0 => ?_
      simp only [↓bO, go_sem, seval, hc0, hc1, hl0, hl1]
      refine q0 _ ?_
      clear q0 Q0
      simp only [go_sem]
      simp only [↓bO, go_sem, seval, hc0, hc1, hl0, hl1]
      refine y1 _ ?_
      try clear y1 Y1
      refine AWp_ret ?_
      try simp only [thenQ, blockQ, noGotoQ, retQ, aRes, tupOf, bS, bA]
      exact pw_neg hneg
     ·
      have h122 : bt s 1 ≤ 122 := by (have h9 := hb24; simp at h9; omega)
      have hwu : IntKind.u8.wrap (bt s 1 - 97) = bt s 1 - 97 := by (unfold IntKind.wrap; simp [IntKind.bits, IntKind.signed]; omega)
      have hwc : IntKind.i64.wrap (bt s 1 - 97) = bt s 1 - 97 := by (rw [wrap_in (by omega) (by omega)])
      refine AWp_skip ?_
      try simp only [thenQ, blockQ, noGotoQ]
      refine y0 _ ?_
      try clear y0 Y0
      refine AWp_seqK fun Y0 y0 => ?_
      refine AWp_region ?_
      simp only [↓bO, go_sem, seval, hc0, hc1, hl0, hl1, hwu, hwc]
      refine y0 _ ?_
      try clear y0 Y0
      refine AWp_seqK fun Y0 y0 => ?_
      refine AWp_seqK fun Y1 y1 => ?_
      refine AWp_region ?_
      iterate 2 (refine aops_chunk 1 fun Q0 q0 => ?_; simp only [↓bO, go_sem, seval, hc0, hc1, hl0, hl1, hwu, hwc]; refine q0 _ ?_; clear q0 Q0; simp only [go_sem])
      simp only [↓bO, go_sem, seval, hc0, hc1, hl0, hl1, hwu, hwc]
      refine y1 _ ?_
      try clear y1 Y1
      refine AWp_cond rfl (fun hb27 => ?_) (fun hb27 => ?_)
      ·
       have h3 : 2 < s.size := by (have h9 := hb27; simp at h9; omega)
       have hl2 : ((2 : Int) ≤ (s.size : Int)) = True := eq_true (by omega)
       refine AWp_seqK fun Y1 y1 => ?_
       refine AWp_region ?_
       iterate 2 (refine aops_chunk 1 fun Q0 q0 => ?_; simp only [↓bO, go_sem, seval, hc0, hc1, hl0, hl1, hwu, hwc, hl2]; refine q0 _ ?_; clear q0 Q0; simp only [go_sem])
       refine aops_chunk 1 fun Q0 q0 => ?_
       simp only [↓bO, go_sem, seval, hc0, hc1, hl0, hl1, hwu, hwc, hl2]
       refine APure.call (Atoi_ok_pure (s.extract 2 s.size) (by (have := ex_size s (a := 2) (b := s.size) (by omega) (by omega)); omega) v hv) ?_
       try simp only [bS, bA, thenQ, blockQ, noGotoQ]
       iterate 4 (refine q0 _ ?_; clear q0 Q0; simp only [go_sem]; refine aops_chunk 1 fun Q0 q0 => ?_; simp only [↓bO, go_sem, seval, hc0, hc1, hl0, hl1, hwu, hwc, hl2])
       refine q0 _ ?_
       clear q0 Q0
       simp only [go_sem]
       simp only [↓bO, go_sem, seval, hc0, hc1, hl0, hl1, hwu, hwc, hl2]
       refine y1 _ ?_
       try clear y1 Y1
       refine AWp_seqK fun Y1 y1 => ?_
       refine AWp_seqK fun Y2 y2 => ?_
       refine AWp_region ?_
       refine aops_chunk 1 fun Q0 q0 => ?_
       simp only [↓bO, go_sem, seval, hc0, hc1, hl0, hl1, hwu, hwc, hl2]
       refine q0 _ ?_
       clear q0 Q0
       simp only [go_sem]
       refine aops_chunk 1 fun Q0 q0 => ?_
       simp only [↓bO, go_sem, seval, isCn, ↓if97, hc0, hc1, hl0, hl1, hwu, hwc, hl2]
       refine q0 _ ?_
       clear q0 Q0
       simp only [go_sem]
       refine aops_chunk 1 fun Q0 q0 => ?_
       simp only [↓bO, go_sem, seval, hc0, hc1, hl0, hl1, hwu, hwc, hl2]
       refine q0 _ ?_
       clear q0 Q0
       simp only [go_sem]
       refine aops_case 36 rfl (fun hc36 => ?_) (fun hc36 => ?_)
       ·
        simp only [List.set_cons_zero, List.set_cons_succ]
        exact absurd hc36 (by simp)
       ·
        simp only [List.set_cons_zero, List.set_cons_succ]
        iterate 4 (refine aops_chunk 1 fun Q0 q0 => ?_; simp only [↓bO, go_sem, seval, hc0, hc1, hl0, hl1, hwu, hwc, hl2]; refine q0 _ ?_; clear q0 Q0; simp only [go_sem])
        refine aops_case 40 rfl (fun hc40 => ?_) (fun hc40 => ?_)
        ·
         simp only [List.set_cons_zero, List.set_cons_succ]
         have hneg : nuR s < 0 := neg_of fun h => by (have g := (nu_parts h).2.2.2.2.2.2.2 h3; have e := g.2; rw [hv] at e; injection e with e; have h9 := hc40; simp at h9; omega)
         iterate 2 (refine aops_chunk 1 fun Q0 q0 => ?_; simp only [↓bO, go_sem, seval, hc0, hc1, hl0, hl1, hwu, hwc, hl2]; refine q0 _ ?_; clear q0 Q0; simp only [go_sem])
         simp only [↓bO, go_sem, seval, hc0, hc1, hl0, hl1, hwu, hwc, hl2]
         refine y2 _ ?_
         try clear y2 Y2
         refine AWp_cond (b := true) (by first | exact rfl | exact congrArg (fun b => AV.v (.bool b)) hb43) (fun _ => ?_) (fun h => (by cases h))
         refine AWp_seqK fun Y2 y2 => ?_
         refine AWp_region ?_
         refine aops_chunk 1 fun Q0 q0 => ?_
         simp only [↓bO, go_sem, seval, hc0, hc1, hl0, hl1, hwu, hwc, hl2]
         refine q0 _ ?_
         clear q0 Q0
         simp only [go_sem]
         simp only [↓bO, go_sem, seval, hc0, hc1, hl0, hl1, hwu, hwc, hl2]
         refine y2 _ ?_
         try clear y2 Y2
         refine AWp_ret ?_
         try simp only [thenQ, blockQ, noGotoQ, retQ, aRes, tupOf, bS, bA]
         exact pw_neg hneg
        ·
         simp only [List.set_cons_zero, List.set_cons_succ]
         have hv1 : 1 ≤ v := by (have h9 := hc40; simp at h9; omega)
         iterate 2 (refine aops_chunk 1 fun Q0 q0 => ?_; simp only [↓bO, go_sem, seval, hc0, hc1, hl0, hl1, hwu, hwc, hl2]; refine q0 _ ?_; clear q0 Q0; simp only [go_sem])
         simp only [↓bO, go_sem, seval, hc0, hc1, hl0, hl1, hwu, hwc, hl2]
         refine y2 _ ?_
         try clear y2 Y2
         refine AWp_cond rfl (fun hb43 => ?_) (fun hb43 => ?_)
         ·
          have hneg : nuR s < 0 := by (first | exact hneg | exact neg_of fun h => by (have g := (nu_parts h).2.2.2.2.2.2.2 h3; have g1 := (nu_parts h).1; have e := g.2; rw [hv] at e; injection e with e; have h9 := hb43; simp at h9; omega))
          refine AWp_seqK fun Y2 y2 => ?_
          refine AWp_region ?_
          refine aops_chunk 1 fun Q0 q0 => ?_
          simp only [↓bO, go_sem, seval, hc0, hc1, hl0, hl1, hwu, hwc, hl2]
          refine q0 _ ?_
          clear q0 Q0
          simp only [go_sem]
          simp only [↓bO, go_sem, seval, hc0, hc1, hl0, hl1, hwu, hwc, hl2]
          refine y2 _ ?_
          try clear y2 Y2
          refine AWp_ret ?_
          try simp only [thenQ, blockQ, noGotoQ, retQ, aRes, tupOf, bS, bA]
          exact pw_neg hneg
         ·
          have hv2 : v < 1073741824 := by (have h9 := hb43; simp at h9; omega)
          have hwa : IntKind.i64.wrap (26 * v) = 26 * v := by (rw [wrap_in (by omega) (by omega)])
          have hwb : IntKind.i64.wrap (26 * v + (bt s 1 - 97)) = 26 * v + (bt s 1 - 97) := by (rw [wrap_in (by omega) (by omega)])
          refine AWp_skip ?_
          try simp only [thenQ, blockQ, noGotoQ]
          refine y1 _ ?_
          try clear y1 Y1
          refine AWp_region ?_
          iterate 2 (refine aops_chunk 1 fun Q0 q0 => ?_; simp only [↓bO, go_sem, seval, hc0, hc1, hl0, hl1, hwu, hwc, hl2, hwa, hwb]; refine q0 _ ?_; clear q0 Q0; simp only [go_sem])
          simp only [↓bO, go_sem, seval, hc0, hc1, hl0, hl1, hwu, hwc, hl2, hwa, hwb]
          refine y0 _ ?_
          try clear y0 Y0
          refine AWp_seqK fun Y0 y0 => ?_
          refine AWp_region ?_
          iterate 6 (refine aops_chunk 1 fun Q0 q0 => ?_; simp only [↓bO, go_sem, seval, hc0, hc1, hl0, hl1, hwu, hwc, hl2, hwa, hwb]; refine q0 _ ?_; clear q0 Q0; simp only [go_sem])
          simp only [↓bO, go_sem, seval, hc0, hc1, hl0, hl1, hwu, hwc, hl2, hwa, hwb]
          refine y0 _ ?_
          try clear y0 Y0
          refine AWp_seqK fun Y0 y0 => ?_
          refine AWp_seqK fun Y1 y1 => ?_
          refine AWp_region ?_
          refine aops_chunk 1 fun Q0 q0 => ?_
          simp only [↓bO, go_sem, seval, hc0, hc1, hl0, hl1, hwu, hwc, hl2, hwa, hwb]
          refine q0 _ ?_
          clear q0 Q0
          simp only [go_sem]
          refine aops_chunk 1 fun Q0 q0 => ?_
          simp only [↓bO, go_sem, seval, hc0, hc1, hl0, hl1, hwu, hwc, hl2, hwa, hwb]
          refine APure.call (NameA_pure _) ?_
          try simp only [bS, bA, thenQ, blockQ, noGotoQ]
          refine q0 _ ?_
          clear q0 Q0
          simp only [go_sem]
          refine aops_chunk 1 fun Q0 q0 => ?_
          simp only [↓bO, go_sem, seval, hc0, hc1, hl0, hl1, hwu, hwc, hl2, hwa, hwb]
          refine q0 _ ?_
          clear q0 Q0
          simp only [go_sem]
          simp only [↓bO, go_sem, seval, hc0, hc1, hl0, hl1, hwu, hwc, hl2, hwa, hwb]
          refine y1 _ ?_
          try clear y1 Y1
          refine AWp_cond rfl (fun hb55 => ?_) (fun hb55 => ?_)
          ·
           have hneg : nuR s < 0 := nu_noname (eqS_ne hb55) (fun h => by (have g := nu_parts h; first | (have g1 := g.2.2.2.2.2.2.2 h3; have e := g1.2; rw [hv] at e; injection e with e; omega) | omega))
           refine AWp_seqK fun Y1 y1 => ?_
           refine AWp_region ?_
           refine aops_chunk 1 fun Q0 q0 => ?_
           simp only [↓bO, go_sem, seval, hc0, hc1, hl0, hl1, hwu, hwc, hl2, hwa, hwb]
           refine q0 _ ?_
           clear q0 Q0
           simp only [go_sem]
           simp only [↓bO, go_sem, seval, hc0, hc1, hl0, hl1, hwu, hwc, hl2, hwa, hwb]
           refine y1 _ ?_
           try clear y1 Y1
           refine AWp_ret ?_
           try simp only [thenQ, blockQ, noGotoQ, retQ, aRes, tupOf, bS, bA]
           exact pw_neg hneg
          ·
           have hnm := hb55
           refine AWp_skip ?_
           try simp only [thenQ, blockQ, noGotoQ]
           refine y0 _ ?_
           try clear y0 Y0
           refine AWp_seqK fun Y0 y0 => ?_
           refine AWp_region ?_
           iterate 2 (refine aops_chunk 1 fun Q0 q0 => ?_; simp only [↓bO, go_sem, seval, hc0, hc1, hl0, hl1, hwu, hwc, hl2, hwa, hwb]; refine q0 _ ?_; clear q0 Q0; simp only [go_sem])
           simp only [↓bO, go_sem, seval, hc0, hc1, hl0, hl1, hwu, hwc, hl2, hwa, hwb]
           refine y0 _ ?_
           try clear y0 Y0
           refine AWp_ret ?_
           try simp only [thenQ, blockQ, noGotoQ, retQ, aRes, tupOf, bS, bA]
           have hnn := nu_name (eqS_nn hnm) (by omega)
           exact pw_num hnn.1 hnn.2
      ·
       have h3 : ¬ 2 < s.size := by (have h9 := hb27; simp at h9; omega)
       have hwz : IntKind.i64.wrap (0 + (bt s 1 - 97)) = bt s 1 - 97 := by (rw [wrap_in (by omega) (by omega)]; omega)
       refine AWp_skip ?_
       try simp only [thenQ, blockQ, noGotoQ]
       refine y0 _ ?_
       try clear y0 Y0
       refine AWp_seqK fun Y0 y0 => ?_
       refine AWp_region ?_
       iterate 6 (refine aops_chunk 1 fun Q0 q0 => ?_; simp only [↓bO, go_sem, seval, hc0, hc1, hl0, hl1, hwu, hwc, hwz]; refine q0 _ ?_; clear q0 Q0; simp only [go_sem])
       simp only [↓bO, go_sem, seval, hc0, hc1, hl0, hl1, hwu, hwc, hwz]
       refine y0 _ ?_
       try clear y0 Y0
       refine AWp_seqK fun Y0 y0 => ?_
       refine AWp_seqK fun Y1 y1 => ?_
       refine AWp_region ?_
       refine aops_chunk 1 fun Q0 q0 => ?_
       simp only [↓bO, go_sem, seval, hc0, hc1, hl0, hl1, hwu, hwc, hwz]
       refine q0 _ ?_
       clear q0 Q0
       simp only [go_sem]
       refine aops_chunk 1 fun Q0 q0 => ?_
       simp only [↓bO, go_sem, seval, hc0, hc1, hl0, hl1, hwu, hwc, hwz]
       refine APure.call (NameA_pure _) ?_
       try simp only [bS, bA, thenQ, blockQ, noGotoQ]
       refine q0 _ ?_
       clear q0 Q0
       simp only [go_sem]
       refine aops_chunk 1 fun Q0 q0 => ?_
       simp only [↓bO, go_sem, seval, hc0, hc1, hl0, hl1, hwu, hwc, hwz]
       refine q0 _ ?_
       clear q0 Q0
       simp only [go_sem]
       simp only [↓bO, go_sem, seval, hc0, hc1, hl0, hl1, hwu, hwc, hwz]
       refine y1 _ ?_
       try clear y1 Y1
       refine AWp_cond rfl (fun hb55 => ?_) (fun hb55 => ?_)
       ·
        have hneg : nuR s < 0 := nu_noname (eqS_ne hb55) (fun h => by (have g := nu_parts h; first | (have g1 := g.2.2.2.2.2.2.2 h3; have e := g1.2; rw [hv] at e; injection e with e; omega) | omega))
        refine AWp_seqK fun Y1 y1 => ?_
        refine AWp_region ?_
        refine aops_chunk 1 fun Q0 q0 => ?_
        simp only [↓bO, go_sem, seval, hc0, hc1, hl0, hl1, hwu, hwc, hwz]
        refine q0 _ ?_
        clear q0 Q0
        simp only [go_sem]
        simp only [↓bO, go_sem, seval, hc0, hc1, hl0, hl1, hwu, hwc, hwz]
        refine y1 _ ?_
        try clear y1 Y1
        refine AWp_ret ?_
        try simp only [thenQ, blockQ, noGotoQ, retQ, aRes, tupOf, bS, bA]
        exact pw_neg hneg
       ·
        have hnm := hb55
        refine AWp_skip ?_
        try simp only [thenQ, blockQ, noGotoQ]
        refine y0 _ ?_
        try clear y0 Y0
        refine AWp_seqK fun Y0 y0 => ?_
        refine AWp_region ?_
        iterate 2 (refine aops_chunk 1 fun Q0 q0 => ?_; simp only [↓bO, go_sem, seval, hc0, hc1, hl0, hl1, hwu, hwc, hwz]; refine q0 _ ?_; clear q0 Q0; simp only [go_sem])
        simp only [↓bO, go_sem, seval, hc0, hc1, hl0, hl1, hwu, hwc, hwz]
        refine y0 _ ?_
        try clear y0 Y0
        refine AWp_ret ?_
        try simp only [thenQ, blockQ, noGotoQ, retQ, aRes, tupOf, bS, bA]
        have hnn := nu_name (eqS_nn hnm) (by omega)
        exact pw_num hnn.1 hnn.2
theorem Number_no (s : ByteArray) (hs : s.size ≤ 1048576) (hv : ∀ v, Lib.atoiAll (bl (s.extract 2 s.size)) ≠ .ok v) : APure Tryd.prog 55 [.v (.string s)] (.tup [.v (.int .i64 (pwNum s)), .v (.bool (decide (0 ≤ nuR s)))]) := by
  refine APure.mkL (.cons (.v _) .nil) (.tup (.cons (.v _) (.cons (.v _) .nil))) ?_
  refine ACalls_intro Tryd.func55 (by kernel_rfl) rfl (by rw [Tryd.ntmps55]; simp) (fun hm => ?_)
  simp only [Tryd.ntmps55, Tryd.results55, List.length_cons, List.length_nil, Nat.reduceAdd, Nat.reduceSub, List.replicate_succ, List.replicate_zero, List.cons_append, List.nil_append]
  have hb0 := bt_range s 0
  have hb1 := bt_range s 1
  have hc0 : ((((s[0]?).getD 0).toNat : Nat) : Int) = bt s 0 := rfl
  have hc1 : ((((s[1]?).getD 0).toNat : Nat) : Int) = bt s 1 := rfl
  refine AWp_seqK fun Y0 y0 => ?_
  refine AWp_region ?_
  refine aops_chunk 1 fun Q0 q0 => ?_
  simp only [↓bO, go_sem, seval, hc0, hc1]
  refine q0 _ ?_
  clear q0 Q0
  simp only [go_sem]
  simp only [↓bO, go_sem, seval, hc0, hc1]
  refine y0 _ ?_
  try clear y0 Y0
  refine AWp_seqK fun Y0 y0 => ?_
  refine AWp_seqK fun Y1 y1 => ?_
  refine AWp_region ?_
  iterate 4 (refine aops_chunk 1 fun Q0 q0 => ?_; simp only [↓bO, go_sem, seval, hc0, hc1]; refine q0 _ ?_; clear q0 Q0; simp only [go_sem])
  refine aops_case 10 rfl (fun hc10 => ?_) (fun hc10 => ?_)
  ·
   simp only [List.set_cons_zero, List.set_cons_succ]
   have hneg : nuR s < 0 := neg_of fun h => by (have g := nu_parts h; have h9 := hc10; simp at h9; omega)
   iterate 13 (refine aops_chunk 1 fun Q0 q0 => ?_; simp only [↓bO, go_sem, seval, hc0, hc1]; refine q0 _ ?_; clear q0 Q0; simp only [go_sem])
   simp only [↓bO, go_sem, seval, hc0, hc1]
   refine y1 _ ?_
   try clear y1 Y1
   refine AWp_cond (b := true) (by first | exact rfl | exact congrArg (fun b => AV.v (.bool b)) hb24) (fun _ => ?_) (fun h => (by cases h))
   refine AWp_seqK fun Y1 y1 => ?_
   refine AWp_region ?_
   refine aops_chunk 1 fun Q0 q0 => ?_
   simp only [↓bO, go_sem, seval, hc0, hc1]
   refine q0 _ ?_
   clear q0 Q0
   simp only [go_sem]
   simp only [↓bO, go_sem, seval, hc0, hc1]
   refine y1 _ ?_
   try clear y1 Y1
   refine AWp_ret ?_
   try simp only [thenQ, blockQ, noGotoQ, retQ, aRes, tupOf, bS, bA]
   exact pw_neg hneg
  ·
   simp only [List.set_cons_zero, List.set_cons_succ]
   have h2 : 2 ≤ s.size := by (have h9 := hc10; simp at h9; omega)
   have hl0 : ((0 : Int) < (s.size : Int)) = True := eq_true (by omega)
   have hl1 : ((1 : Int) < (s.size : Int)) = True := eq_true (by omega)
   iterate 5 (refine aops_chunk 1 fun Q0 q0 => ?_; simp only [↓bO, go_sem, seval, hc0, hc1, hl0, hl1]; refine q0 _ ?_; clear q0 Q0; simp only [go_sem])
   refine aops_case 15 rfl (fun hc15 => ?_) (fun hc15 => ?_)
   ·
    simp only [List.set_cons_zero, List.set_cons_succ]
    have hneg : nuR s < 0 := neg_of fun h => by (have g := nu_parts h; have h9 := hc15; simp at h9; omega)
    iterate 8 (refine aops_chunk 1 fun Q0 q0 => ?_; simp only [↓bO, go_sem, seval, hc0, hc1, hl0, hl1]; refine q0 _ ?_; clear q0 Q0; simp only [go_sem])
    simp only [↓bO, go_sem, seval, hc0, hc1, hl0, hl1]
    refine y1 _ ?_
    try clear y1 Y1
    refine AWp_cond (b := true) (by first | exact rfl | exact congrArg (fun b => AV.v (.bool b)) hb24) (fun _ => ?_) (fun h => (by cases h))
    refine AWp_seqK fun Y1 y1 => ?_
    refine AWp_region ?_
    refine aops_chunk 1 fun Q0 q0 => ?_
    simp only [↓bO, go_sem, seval, hc0, hc1, hl0, hl1]
    refine q0 _ ?_
    clear q0 Q0
    simp only [go_sem]
    simp only [↓bO, go_sem, seval, hc0, hc1, hl0, hl1]
    refine y1 _ ?_
    try clear y1 Y1
    refine AWp_ret ?_
    try simp only [thenQ, blockQ, noGotoQ, retQ, aRes, tupOf, bS, bA]
    exact pw_neg hneg
   ·
    simp only [List.set_cons_zero, List.set_cons_succ]
    iterate 5 (refine aops_chunk 1 fun Q0 q0 => ?_; simp only [↓bO, go_sem, seval, hc0, hc1, hl0, hl1]; refine q0 _ ?_; clear q0 Q0; simp only [go_sem])
    refine aops_case 20 rfl (fun hc20 => ?_) (fun hc20 => ?_)
    ·
     simp only [List.set_cons_zero, List.set_cons_succ]
     have hneg : nuR s < 0 := neg_of fun h => by (have g := nu_parts h; have h9 := hc20; simp at h9; omega)
     iterate 3 (refine aops_chunk 1 fun Q0 q0 => ?_; simp only [↓bO, go_sem, seval, hc0, hc1, hl0, hl1]; refine q0 _ ?_; clear q0 Q0; simp only [go_sem])
     simp only [↓bO, go_sem, seval, hc0, hc1, hl0, hl1]
     refine y1 _ ?_
     try clear y1 Y1
     refine AWp_cond (b := true) (by first | exact rfl | exact congrArg (fun b => AV.v (.bool b)) hb24) (fun _ => ?_) (fun h => (by cases h))
     refine AWp_seqK fun Y1 y1 => ?_
     refine AWp_region ?_
     refine aops_chunk 1 fun Q0 q0 => ?_
     simp only [↓bO, go_sem, seval, hc0, hc1, hl0, hl1]
     refine q0 _ ?_
     clear q0 Q0
     simp only [go_sem]
     simp only [↓bO, go_sem, seval, hc0, hc1, hl0, hl1]
     refine y1 _ ?_
     try clear y1 Y1
     refine AWp_ret ?_
     try simp only [thenQ, blockQ, noGotoQ, retQ, aRes, tupOf, bS, bA]
     exact pw_neg hneg
    ·
     simp only [List.set_cons_zero, List.set_cons_succ]
     have h97 : 97 ≤ bt s 1 := by (have h9 := hc20; simp at h9; omega)
     iterate 3 (refine aops_chunk 1 fun Q0 q0 => ?_; simp only [↓bO, go_sem, seval, hc0, hc1, hl0, hl1]; refine q0 _ ?_; clear q0 Q0; simp only [go_sem])
     simp only [↓bO, go_sem, seval, hc0, hc1, hl0, hl1]
     refine y1 _ ?_
     try clear y1 Y1
     refine AWp_cond rfl (fun hb24 => ?_) (fun hb24 => ?_)
     ·
      have hneg : nuR s < 0 := neg_of fun h => by (have g := nu_parts h; have h9 := hb24; simp at h9; omega)
      refine AWp_seqK fun Y1 y1 => ?_
      refine AWp_region ?_
      refine aops_chunk 1 fun Q0 q0 => ?_
      simp only [↓bO, go_sem, seval, hc0, hc1, hl0, hl1]
      refine q0 _ ?_
      clear q0 Q0
      simp only [go_sem]
      simp only [↓bO, go_sem, seval, hc0, hc1, hl0, hl1]
      refine y1 _ ?_
      try clear y1 Y1
      refine AWp_ret ?_
      try simp only [thenQ, blockQ, noGotoQ, retQ, aRes, tupOf, bS, bA]
      exact pw_neg hneg
     ·
      have h122 : bt s 1 ≤ 122 := by (have h9 := hb24; simp at h9; omega)
      have hwu : IntKind.u8.wrap (bt s 1 - 97) = bt s 1 - 97 := by (unfold IntKind.wrap; simp [IntKind.bits, IntKind.signed]; omega)
      have hwc : IntKind.i64.wrap (bt s 1 - 97) = bt s 1 - 97 := by (rw [wrap_in (by omega) (by omega)])
      refine AWp_skip ?_
      try simp only [thenQ, blockQ, noGotoQ]
      refine y0 _ ?_
      try clear y0 Y0
      refine AWp_seqK fun Y0 y0 => ?_
      refine AWp_region ?_
      simp only [↓bO, go_sem, seval, hc0, hc1, hl0, hl1, hwu, hwc]
      refine y0 _ ?_
      try clear y0 Y0
      refine AWp_seqK fun Y0 y0 => ?_
      refine AWp_seqK fun Y1 y1 => ?_
      refine AWp_region ?_
      iterate 2 (refine aops_chunk 1 fun Q0 q0 => ?_; simp only [↓bO, go_sem, seval, hc0, hc1, hl0, hl1, hwu, hwc]; refine q0 _ ?_; clear q0 Q0; simp only [go_sem])
      simp only [↓bO, go_sem, seval, hc0, hc1, hl0, hl1, hwu, hwc]
      refine y1 _ ?_
      try clear y1 Y1
      refine AWp_cond rfl (fun hb27 => ?_) (fun hb27 => ?_)
      ·
       have h3 : 2 < s.size := by (have h9 := hb27; simp at h9; omega)
       have hl2 : ((2 : Int) ≤ (s.size : Int)) = True := eq_true (by omega)
       refine AWp_seqK fun Y1 y1 => ?_
       refine AWp_region ?_
       iterate 2 (refine aops_chunk 1 fun Q0 q0 => ?_; simp only [↓bO, go_sem, seval, hc0, hc1, hl0, hl1, hwu, hwc, hl2]; refine q0 _ ?_; clear q0 Q0; simp only [go_sem])
       refine aops_chunk 1 fun Q0 q0 => ?_
       simp only [↓bO, go_sem, seval, hc0, hc1, hl0, hl1, hwu, hwc, hl2]
       refine Atoi_no (s.extract 2 s.size) (by (have := ex_size s (a := 2) (b := s.size) (by omega) (by omega)); omega) hv fun v tv pv => ?_
       try simp only [bS, bA, thenQ, blockQ, noGotoQ]
       iterate 4 (refine q0 _ ?_; clear q0 Q0; simp only [go_sem]; refine aops_chunk 1 fun Q0 q0 => ?_; simp only [↓bO, go_sem, seval, hc0, hc1, hl0, hl1, hwu, hwc, hl2])
       refine q0 _ ?_
       clear q0 Q0
       simp only [go_sem]
       simp only [↓bO, go_sem, seval, hc0, hc1, hl0, hl1, hwu, hwc, hl2]
       refine y1 _ ?_
       try clear y1 Y1
       refine AWp_seqK fun Y1 y1 => ?_
       refine AWp_seqK fun Y2 y2 => ?_
       refine AWp_region ?_
       refine aops_chunk 1 fun Q0 q0 => ?_
       simp only [↓bO, go_sem, seval, hc0, hc1, hl0, hl1, hwu, hwc, hl2]
       refine q0 _ ?_
       clear q0 Q0
       simp only [go_sem]
       refine aops_chunk 1 fun Q0 q0 => ?_
       simp only [↓bO, go_sem, seval, isCn, ↓if97, hc0, hc1, hl0, hl1, hwu, hwc, hl2]
       refine q0 _ ?_
       clear q0 Q0
       simp only [go_sem]
       refine aops_chunk 1 fun Q0 q0 => ?_
       simp only [↓bO, go_sem, seval, hc0, hc1, hl0, hl1, hwu, hwc, hl2]
       refine q0 _ ?_
       clear q0 Q0
       simp only [go_sem]
       refine aops_case 36 rfl (fun hc36 => ?_) (fun hc36 => ?_)
       ·
        simp only [List.set_cons_zero, List.set_cons_succ]
        have hneg : nuR s < 0 := neg_of fun h => hv _ ((nu_parts h).2.2.2.2.2.2.2 h3).2
        iterate 6 (refine aops_chunk 1 fun Q0 q0 => ?_; simp only [↓bO, go_sem, seval, hc0, hc1, hl0, hl1, hwu, hwc, hl2]; refine q0 _ ?_; clear q0 Q0; simp only [go_sem])
        simp only [↓bO, go_sem, seval, hc0, hc1, hl0, hl1, hwu, hwc, hl2]
        refine y2 _ ?_
        try clear y2 Y2
        refine AWp_cond (b := true) (by first | exact rfl | exact congrArg (fun b => AV.v (.bool b)) hb43) (fun _ => ?_) (fun h => (by cases h))
        refine AWp_seqK fun Y2 y2 => ?_
        refine AWp_region ?_
        refine aops_chunk 1 fun Q0 q0 => ?_
        simp only [↓bO, go_sem, seval, hc0, hc1, hl0, hl1, hwu, hwc, hl2]
        refine q0 _ ?_
        clear q0 Q0
        simp only [go_sem]
        simp only [↓bO, go_sem, seval, hc0, hc1, hl0, hl1, hwu, hwc, hl2]
        refine y2 _ ?_
        try clear y2 Y2
        refine AWp_ret ?_
        try simp only [thenQ, blockQ, noGotoQ, retQ, aRes, tupOf, bS, bA]
        exact pw_neg hneg
       ·
        simp only [List.set_cons_zero, List.set_cons_succ]
        exact absurd hc36 (by simp)
      ·
       have h3 : ¬ 2 < s.size := by (have h9 := hb27; simp at h9; omega)
       have hwz : IntKind.i64.wrap (0 + (bt s 1 - 97)) = bt s 1 - 97 := by (rw [wrap_in (by omega) (by omega)]; omega)
       refine AWp_skip ?_
       try simp only [thenQ, blockQ, noGotoQ]
       refine y0 _ ?_
       try clear y0 Y0
       refine AWp_seqK fun Y0 y0 => ?_
       refine AWp_region ?_
       iterate 6 (refine aops_chunk 1 fun Q0 q0 => ?_; simp only [↓bO, go_sem, seval, hc0, hc1, hl0, hl1, hwu, hwc, hwz]; refine q0 _ ?_; clear q0 Q0; simp only [go_sem])
       simp only [↓bO, go_sem, seval, hc0, hc1, hl0, hl1, hwu, hwc, hwz]
       refine y0 _ ?_
       try clear y0 Y0
       refine AWp_seqK fun Y0 y0 => ?_
       refine AWp_seqK fun Y1 y1 => ?_
       refine AWp_region ?_
       refine aops_chunk 1 fun Q0 q0 => ?_
       simp only [↓bO, go_sem, seval, hc0, hc1, hl0, hl1, hwu, hwc, hwz]
       refine q0 _ ?_
       clear q0 Q0
       simp only [go_sem]
       refine aops_chunk 1 fun Q0 q0 => ?_
       simp only [↓bO, go_sem, seval, hc0, hc1, hl0, hl1, hwu, hwc, hwz]
       refine APure.call (NameA_pure _) ?_
       try simp only [bS, bA, thenQ, blockQ, noGotoQ]
       refine q0 _ ?_
       clear q0 Q0
       simp only [go_sem]
       refine aops_chunk 1 fun Q0 q0 => ?_
       simp only [↓bO, go_sem, seval, hc0, hc1, hl0, hl1, hwu, hwc, hwz]
       refine q0 _ ?_
       clear q0 Q0
       simp only [go_sem]
       simp only [↓bO, go_sem, seval, hc0, hc1, hl0, hl1, hwu, hwc, hwz]
       refine y1 _ ?_
       try clear y1 Y1
       refine AWp_cond rfl (fun hb55 => ?_) (fun hb55 => ?_)
       ·
        have hneg : nuR s < 0 := nu_noname (eqS_ne hb55) (fun h => by (have g := nu_parts h; first | (have g1 := g.2.2.2.2.2.2.2 h3; have e := g1.2; rw [hv] at e; injection e with e; omega) | omega))
        refine AWp_seqK fun Y1 y1 => ?_
        refine AWp_region ?_
        refine aops_chunk 1 fun Q0 q0 => ?_
        simp only [↓bO, go_sem, seval, hc0, hc1, hl0, hl1, hwu, hwc, hwz]
        refine q0 _ ?_
        clear q0 Q0
        simp only [go_sem]
        simp only [↓bO, go_sem, seval, hc0, hc1, hl0, hl1, hwu, hwc, hwz]
        refine y1 _ ?_
        try clear y1 Y1
        refine AWp_ret ?_
        try simp only [thenQ, blockQ, noGotoQ, retQ, aRes, tupOf, bS, bA]
        exact pw_neg hneg
       ·
        have hnm := hb55
        refine AWp_skip ?_
        try simp only [thenQ, blockQ, noGotoQ]
        refine y0 _ ?_
        try clear y0 Y0
        refine AWp_seqK fun Y0 y0 => ?_
        refine AWp_region ?_
        iterate 2 (refine aops_chunk 1 fun Q0 q0 => ?_; simp only [↓bO, go_sem, seval, hc0, hc1, hl0, hl1, hwu, hwc, hwz]; refine q0 _ ?_; clear q0 Q0; simp only [go_sem])
        simp only [↓bO, go_sem, seval, hc0, hc1, hl0, hl1, hwu, hwc, hwz]
        refine y0 _ ?_
        try clear y0 Y0
        refine AWp_ret ?_
        try simp only [thenQ, blockQ, noGotoQ, retQ, aRes, tupOf, bS, bA]
        have hnn := nu_name (eqS_nn hnm) (by omega)
        exact pw_num hnn.1 hnn.2
theorem Number_pure (s : ByteArray) (hs : s.size ≤ 1048576) : APure Tryd.prog 55 [.v (.string s)] (.tup [.v (.int .i64 (pwNum s)), .v (.bool (decide (0 ≤ nuR s)))]) := by
  cases hc : Lib.atoiAll (bl (s.extract 2 s.size)) with
  | ok v => exact Number_ok s hs v hc
  | «syntax» => exact Number_no s hs fun v h => by rw [hc] at h; cases h
  | range => exact Number_no s hs fun v h => by rw [hc] at h; cases h
theorem name_c (s : ByteArray) (hs : s.size ≤ 1048576) : PCalls4 29 [.ptr 0 0] (s) (false) (.agg (pwName s).1.cells) ((pwName s).2.1) ((pwName s).2.2) := by
  refine ACalls.clean (C := fun r os' => r = _ ∧ os' = _) ?_
  refine ACalls_intro Tryd.func29 (by kernel_rfl) rfl (by rw [Tryd.ntmps29]; simp) (fun hm => ?_)
  simp only [Tryd.ntmps29, Tryd.results29, List.length_cons, List.length_nil, Nat.reduceAdd, Nat.reduceSub, List.replicate_succ, List.replicate_zero, List.cons_append, List.nil_append]
  iterate 2 (refine AWp_seqK fun Y0 y0 => ?_; refine AWp_region ?_; simp only [↓bO, go_sem, seval, pC]; refine y0 _ ?_; (try clear y0 Y0))
  refine AWp_seqK fun Y0 y0 => ?_
  refine AWp_block ?_
  refine AWp_loopM (σ := Nat) (mB 57 13) (fun k => k ≤ s.size ∧ ∀ j, j < k → pwIn (bt s j) = true) (fun k => [(3, .v (.int .i64 ((k : Nat) : Int)))]) (fun k => []) (fun k => s.size - k) 0 (⟨by omega, fun j hj => by omega⟩) ?_ (fun k hk => ?_)
  ·
   try simp only [maskL, setsL, putsO, putO, mB, List.set_cons_zero, List.set_cons_succ, seval]
   exact Weak.mk (by simp only [go_sem, Le.refl, Le.any, Le.slNil, Int.natCast_add, Int.cast_ofNat_Int, Int.natCast_one]) (fun _ _ h => h) rfl rfl
  simp only [maskL, setsL, putsO, putO, mB, List.set_cons_zero, List.set_cons_succ, seval]
  have hck : ((((s[k]?).getD 0).toNat : Nat) : Int) = bt s k := rfl
  have hbk := bt_range s k
  have hw1 : IntKind.i64.wrap ((k : Int) + 1) = ((k + 1 : Nat) : Int) := by (rw [wrap_in (by omega) (by omega)]; omega)
  have hki : ((k : Int) ≤ (s.size : Int)) = True := eq_true (by omega)
  have hix := pw_idx2 s k
  have hexs := ex_size s (a := 0) (b := k) (by omega) (by omega)
  refine AWp_seqK fun Y1 y1 => ?_
  refine AWp_seqK fun Y2 y2 => ?_
  refine AWp_region ?_
  iterate 8 (refine aops_chunk 1 fun Q0 q0 => ?_; simp only [↓bO, go_sem, seval, pC, hck, hw1, hki]; refine q0 _ ?_; clear q0 Q0; simp only [go_sem])
  refine aops_case 13 rfl (fun hc13 => ?_) (fun hc13 => ?_)
  ·
   simp only [List.set_cons_zero, List.set_cons_succ]
   have hlt : k < s.size := by (have h9 := hc13; simp at h9; omega)
   iterate 6 (refine aops_chunk 1 fun Q0 q0 => ?_; simp only [↓bO, go_sem, seval, pC, hck, hw1, hki, hlt]; refine q0 _ ?_; clear q0 Q0; simp only [go_sem])
   refine aops_chunk 1 fun Q0 q0 => ?_
   simp only [↓bO, go_sem, seval, pC, hck, hw1, hki, hlt]
   refine APure.call (IndexByte_pure ⟨#[39, 97, 98, 99, 100, 101, 102, 103, 104, 105, 106, 107, 108, 109, 110, 111, 112, 113, 114, 115, 116, 117, 118, 119, 120, 121, 122, 48, 49, 50, 51, 52, 53, 54, 55, 56, 57]⟩ (bt s k)) ?_
   try simp only [bS, bA, thenQ, blockQ, noGotoQ]
   refine q0 _ ?_
   clear q0 Q0
   simp only [go_sem]
   refine aops_chunk 1 fun Q0 q0 => ?_
   simp only [↓bO, go_sem, seval, pC, hck, hw1, hki, hlt]
   refine q0 _ ?_
   clear q0 Q0
   simp only [go_sem]
   simp only [↓bO, go_sem, seval, pC, hck, hw1, hki, hlt]
   refine y2 _ ?_
   try clear y2 Y2
   refine AWp_cond rfl (fun hb22 => ?_) (fun hb22 => ?_)
   ·
    have hin : pwIn (bt s k) = true := by (rw [← hix]; simpa using hb22)
    refine AWp_skip ?_
    try simp only [thenQ, blockQ, noGotoQ]
    refine y1 _ ?_
    try clear y1 Y1
    refine AWp_block ?_
    refine AWp_region ?_
    iterate 2 (refine aops_chunk 1 fun Q0 q0 => ?_; simp only [↓bO, go_sem, seval, pC, hck, hw1, hki, hlt]; refine q0 _ ?_; clear q0 Q0; simp only [go_sem])
    simp only [↓bO, go_sem, seval, pC, hck, hw1, hki, hlt]
    refine ⟨(k + 1), ⟨by omega, fun j hj => (by rcases Nat.lt_or_ge j k with h3 | h3 <;> first | exact hk.2 j h3 | (obtain rfl : j = k := (by omega); exact hin))⟩, (by omega), ?_⟩
    try simp only [maskL, setsL, putsO, putO, mB, List.set_cons_zero, List.set_cons_succ, seval, hck, hw1, hki, hlt]
    exact Weak.mk (by simp only [go_sem, Le.refl, Le.any, Le.slNil, Int.natCast_add, Int.cast_ofNat_Int, Int.natCast_one]) (fun _ _ h => h) rfl rfl
   ·
    have hrun : runN s 0 pwIn = k := runN_eq (by omega) (fun i hi => by (rw [Nat.zero_add]; exact hk.2 i hi)) (fun hlt2 => by (rw [Nat.zero_add] at hlt2 ⊢; (rw [hck, ← hix]; simpa using hb22)))
    refine AWp_exit ?_
    simp only [thenQ, blockQ, noGotoQ, bA, Nat.reduceEqDiff, ↓reduceIte]
    refine y0 _ ?_
    try clear y0 Y0
    refine AWp_seqK fun Y0 y0 => ?_
    refine AWp_region ?_
    iterate 6 (refine aops_chunk 1 fun Q0 q0 => ?_; simp only [↓bO, go_sem, seval, pC, hlt, hki]; refine q0 _ ?_; clear q0 Q0; simp only [go_sem])
    refine aops_chunk 1 fun Q0 q0 => ?_
    simp only [↓bO, go_sem, seval, pC, hlt, hki]
    refine APure.call (Number_pure (s.extract 0 k) (by omega)) ?_
    try simp only [bS, bA, thenQ, blockQ, noGotoQ]
    iterate 4 (refine q0 _ ?_; clear q0 Q0; simp only [go_sem]; refine aops_chunk 1 fun Q0 q0 => ?_; simp only [↓bO, go_sem, seval, pC, hlt, hki])
    refine q0 _ ?_
    clear q0 Q0
    simp only [go_sem]
    simp only [↓bO, go_sem, seval, pC, hlt, hki]
    refine y0 _ ?_
    try clear y0 Y0
    refine AWp_seqK fun Y0 y0 => ?_
    refine AWp_region ?_
    iterate 6 (refine aops_chunk 1 fun Q0 q0 => ?_; simp only [↓bO, go_sem, seval, pC, hlt, hki]; refine q0 _ ?_; clear q0 Q0; simp only [go_sem])
    refine aops_case 40 rfl (fun hc40 => ?_) (fun hc40 => ?_)
    ·
     simp only [List.set_cons_zero, List.set_cons_succ]
     exact absurd hc40 (by simp)
    ·
     simp only [List.set_cons_zero, List.set_cons_succ]
     iterate 5 (refine aops_chunk 1 fun Q0 q0 => ?_; simp only [↓bO, go_sem, seval, pC, hlt, hki]; refine q0 _ ?_; clear q0 Q0; simp only [go_sem])
     simp only [↓bO, go_sem, seval, pC, hlt, hki]
     refine y0 _ ?_
     try clear y0 Y0
     refine AWp_seqK fun Y0 y0 => ?_
     refine AWp_region ?_
     iterate 9 (refine aops_chunk 1 fun Q0 q0 => ?_; simp only [↓bO, go_sem, seval, pC, hlt, hki]; refine q0 _ ?_; clear q0 Q0; simp only [go_sem])
     simp only [↓bO, go_sem, seval, pC, hlt, hki]
     refine y0 _ ?_
     try clear y0 Y0
     refine AWp_seqK fun Y0 y0 => ?_
     refine AWp_region ?_
     refine aops_chunk 1 fun Q0 q0 => ?_
     simp only [↓bO, go_sem, seval, pC, hlt, hki]
     refine q0 _ ?_
     clear q0 Q0
     simp only [go_sem]
     refine aops_chunk 1 fun Q0 q0 => ?_
     simp only [↓bO, go_sem, seval, pC, hlt, hki]
     refine APure.call (TVar_pure (pwNum (s.extract 0 k))) ?_
     try simp only [bS, bA, thenQ, blockQ, noGotoQ]
     refine q0 _ ?_
     clear q0 Q0
     simp only [go_sem]
     simp only [↓bO, go_sem, seval, pC, hlt, hki]
     refine y0 _ ?_
     try clear y0 Y0
     refine AWp_ret ?_
     try simp only [thenQ, blockQ, noGotoQ, retQ, aRes, tupOf, bS, bA, aLoad, getO, pack, bL, Nat.reduceAdd, Nat.reduceLeDiff, Nat.reduceEqDiff, ↓reduceIte, ti25, tyX, pC, hlt, hki]
     have hpw : pwName s = (.mk 1 (pwNum (s.extract 0 k)) [], s.extract k s.size, !decide (0 ≤ nuR (s.extract 0 k))) := by (unfold pwName; rw [hrun])
     rw [hpw]
     refine ⟨_, _, ⟨rfl, rfl⟩, .data (Ty.dataAgg _), pUnd (by omega) _ _, ?_, ?_, by omega⟩
     · exact Le.refl _
     · first | exact ⟨0, rfl, rfl⟩ | exact ⟨1, rfl, rfl⟩ | exact ⟨2, rfl, rfl⟩ | exact ⟨3, rfl, rfl⟩
  ·
   simp only [List.set_cons_zero, List.set_cons_succ]
   have hge : ¬ k < s.size := by (have h9 := hc13; simp at h9; omega)
   have hrun : runN s 0 pwIn = k := runN_eq (by omega) (fun i hi => by (rw [Nat.zero_add]; exact hk.2 i hi)) (fun hlt2 => by (rw [Nat.zero_add] at hlt2 ⊢; omega))
   iterate 8 (refine aops_chunk 1 fun Q0 q0 => ?_; simp only [↓bO, go_sem, seval, pC, hki]; refine q0 _ ?_; clear q0 Q0; simp only [go_sem])
   simp only [↓bO, go_sem, seval, pC, hki]
   refine y2 _ ?_
   try clear y2 Y2
   refine AWp_cond (b := false) (by first | exact rfl | exact congrArg (fun b => AV.v (.bool b)) hb22) (fun h => (by cases h)) (fun _ => ?_)
   refine AWp_exit ?_
   simp only [thenQ, blockQ, noGotoQ, bA, Nat.reduceEqDiff, ↓reduceIte]
   refine y0 _ ?_
   try clear y0 Y0
   refine AWp_seqK fun Y0 y0 => ?_
   refine AWp_region ?_
   iterate 6 (refine aops_chunk 1 fun Q0 q0 => ?_; simp only [↓bO, go_sem, seval, pC, hki]; refine q0 _ ?_; clear q0 Q0; simp only [go_sem])
   refine aops_chunk 1 fun Q0 q0 => ?_
   simp only [↓bO, go_sem, seval, pC, hki]
   refine APure.call (Number_pure (s.extract 0 k) (by omega)) ?_
   try simp only [bS, bA, thenQ, blockQ, noGotoQ]
   iterate 4 (refine q0 _ ?_; clear q0 Q0; simp only [go_sem]; refine aops_chunk 1 fun Q0 q0 => ?_; simp only [↓bO, go_sem, seval, pC, hki])
   refine q0 _ ?_
   clear q0 Q0
   simp only [go_sem]
   simp only [↓bO, go_sem, seval, pC, hki]
   refine y0 _ ?_
   try clear y0 Y0
   refine AWp_seqK fun Y0 y0 => ?_
   refine AWp_region ?_
   iterate 6 (refine aops_chunk 1 fun Q0 q0 => ?_; simp only [↓bO, go_sem, seval, pC, hki]; refine q0 _ ?_; clear q0 Q0; simp only [go_sem])
   refine aops_case 40 rfl (fun hc40 => ?_) (fun hc40 => ?_)
   ·
    simp only [List.set_cons_zero, List.set_cons_succ]
    exact absurd hc40 (by simp)
   ·
    simp only [List.set_cons_zero, List.set_cons_succ]
    iterate 5 (refine aops_chunk 1 fun Q0 q0 => ?_; simp only [↓bO, go_sem, seval, pC, hki]; refine q0 _ ?_; clear q0 Q0; simp only [go_sem])
    simp only [↓bO, go_sem, seval, pC, hki]
    refine y0 _ ?_
    try clear y0 Y0
    refine AWp_seqK fun Y0 y0 => ?_
    refine AWp_region ?_
    iterate 9 (refine aops_chunk 1 fun Q0 q0 => ?_; simp only [↓bO, go_sem, seval, pC, hki]; refine q0 _ ?_; clear q0 Q0; simp only [go_sem])
    simp only [↓bO, go_sem, seval, pC, hki]
    refine y0 _ ?_
    try clear y0 Y0
    refine AWp_seqK fun Y0 y0 => ?_
    refine AWp_region ?_
    refine aops_chunk 1 fun Q0 q0 => ?_
    simp only [↓bO, go_sem, seval, pC, hki]
    refine q0 _ ?_
    clear q0 Q0
    simp only [go_sem]
    refine aops_chunk 1 fun Q0 q0 => ?_
    simp only [↓bO, go_sem, seval, pC, hki]
    refine APure.call (TVar_pure (pwNum (s.extract 0 k))) ?_
    try simp only [bS, bA, thenQ, blockQ, noGotoQ]
    refine q0 _ ?_
    clear q0 Q0
    simp only [go_sem]
    simp only [↓bO, go_sem, seval, pC, hki]
    refine y0 _ ?_
    try clear y0 Y0
    refine AWp_ret ?_
    try simp only [thenQ, blockQ, noGotoQ, retQ, aRes, tupOf, bS, bA, aLoad, getO, pack, bL, Nat.reduceAdd, Nat.reduceLeDiff, Nat.reduceEqDiff, ↓reduceIte, ti25, tyX, pC, hki]
    have hpw : pwName s = (.mk 1 (pwNum (s.extract 0 k)) [], s.extract k s.size, !decide (0 ≤ nuR (s.extract 0 k))) := by (unfold pwName; rw [hrun])
    rw [hpw]
    refine ⟨_, _, ⟨rfl, rfl⟩, .data (Ty.dataAgg _), pUnd (by omega) _ _, ?_, ?_, by omega⟩
    · exact Le.refl _
    · first | exact ⟨0, rfl, rfl⟩ | exact ⟨1, rfl, rfl⟩ | exact ⟨2, rfl, rfl⟩ | exact ⟨3, rfl, rfl⟩
def PwOk (f : Nat) : Prop := ∀ s : ByteArray, s.size < f → s.size ≤ 1048576 → PCalls4 16 [.ptr 0 0] s false (.agg (pwF f s).1.cells) (pwF f s).2.1 (pwF f s).2.2
structure PwS where
  n : Nat
  acc : List Ty
  s : ByteArray
  b : Bool
def PwS.ok (f : Nat) (s0 : ByteArray) (w : PwS) : Prop := pwRest (pwF f) w.n w.acc w.s w.b = pwRest (pwF f) (s0.size + 1) [(pwF f s0).1] (pwF f s0).2.1 (pwF f s0).2.2 ∧ w.s.size < w.n ∧ w.acc.length + w.s.size ≤ s0.size + 1
theorem PwS.start (f : Nat) (s0 : ByteArray) : PwS.ok f s0 ⟨s0.size + 1, [(pwF f s0).1], (pwF f s0).2.1, (pwF f s0).2.2⟩ := by
  have := (pwF_bnd f s0).le
  exact ⟨rfl, by simp only; omega, by simp only [List.length_cons, List.length_nil]; omega⟩
theorem PwS.ok.next {f : Nat} {s0 : ByteArray} {w : PwS} (h : w.ok f s0) (hb : w.b = false) (hs : hasP w.s bSt = true) : PwS.ok f s0 ⟨w.n - 1, w.acc ++ [(pwF f (cutP w.s bSt)).1], (pwF f (cutP w.s bSt)).2.1, (pwF f (cutP w.s bSt)).2.2⟩ := by
  obtain ⟨h1, h2, h3⟩ := h
  obtain ⟨m, hm⟩ : ∃ m, w.n = m + 1 := ⟨w.n - 1, by omega⟩
  have g1 := cutP_size hs
  have g2 := (pwF_bnd f (cutP w.s bSt)).le
  rw [bSt_size] at g1
  rw [hm, pwRest, if_pos ⟨hb, hs⟩] at h1
  refine ⟨by simp only [hm, Nat.add_sub_cancel]; exact h1, by simp only; omega, by simp only [List.length_append, List.length_cons, List.length_nil]; omega⟩
theorem PwS.ok.stop {f : Nat} {s0 : ByteArray} {w : PwS} (h : w.ok f s0) (hn : w.b = true ∨ hasP w.s bSt = false) : pwInner (pwF f) s0 = pwEnd (w.acc, w.s, w.b) := by
  obtain ⟨h1, h2, h3⟩ := h
  obtain ⟨m, hm⟩ : ∃ m, w.n = m + 1 := ⟨w.n - 1, by omega⟩
  rw [hm, pwRest, if_neg (by rintro ⟨g1, g2⟩; rcases hn with h | h <;> simp_all)] at h1
  unfold pwInner
  rw [← h1]
theorem pwEnd_bad (l : List Ty) (s : ByteArray) : pwEnd (l, s, true) = (pwOne l, s, true) := by
  unfold pwEnd
  simp
theorem pwEnd_go (l : List Ty) (s : ByteArray) : pwEnd (l, s, false) = (pwOne l, if hasP s bRp = true then cutP s bRp else s, !hasP s bRp) := by
  unfold pwEnd
  cases h : hasP s bRp <;> simp
theorem pwOne_one (t : Ty) : pwOne [t] = t := rfl
theorem pwOne_more {l : List Ty} (h : ¬ l.length = 1) : pwOne l = .mk 5 0 l := by
  match l, h with
  | [], _ => rfl
  | [_], h => exact absurd rfl h
  | _ :: _ :: _, _ => rfl
theorem one_of {l : List Ty} (h : l.length = 1) : ∃ t, l = [t] := by
  match l, h with
  | [t], _ => exact ⟨t, rfl⟩
theorem zT_le : Le (.agg [.v (.int .i64 0), .v (.int .i64 0), .v (.slice none 0 0)]) (.agg (Ty.mk 0 0 []).cells) := by
  rw [Ty.cells_eq]; exact Le.agg ⟨.refl _, .refl _, Le.slNil 3, trivial⟩
theorem Ty.pcells (k n : Int) (ps : List Ty) : (Ty.mk k n ps).cells = [.v (.int .i64 k), .v (.int .i64 n), .sl 3 (ps.map Ty.cells)] := Ty.cells_eq _
theorem inner_c (f : Nat) (ih : ∀ g, g ≤ f → PwOk g) (s : ByteArray) (hf : s.size < f) (hs : s.size ≤ 1048576) : PCalls4 28 [.ptr 0 0] s false (.agg (pwInner (pwF f) s).1.cells) (pwInner (pwF f) s).2.1 (pwInner (pwF f) s).2.2 := by
  refine ACalls.clean (C := fun r os' => r = _ ∧ os' = _) ?_
  refine ACalls_intro Tryd.func28 (by kernel_rfl) rfl (by rw [Tryd.ntmps28]; simp) (fun hm => ?_)
  simp only [Tryd.ntmps28, Tryd.results28, List.length_cons, List.length_nil, Nat.reduceAdd, Nat.reduceSub, List.replicate_succ, List.replicate_zero, List.cons_append, List.nil_append]
  refine AWp_seqK fun Y0 y0 => ?_
  refine AWp_region ?_
  simp only [↓bO, go_sem, seval, pC]
  refine y0 _ ?_
  try clear y0 Y0
  refine AWp_seqK fun Y0 y0 => ?_
  refine AWp_midK 2 [_] [_] rfl fun Q0 q0 => ?_
  simp only [go_sem]
  refine aops_chunk 1 fun Q0 q0 => ?_
  simp only [↓bO, go_sem, seval, pC]
  refine q0 _ ?_
  clear q0 Q0
  simp only [go_sem]
  simp only [↓bO, go_sem, seval, pC]
  refine PCalls4.at (k := 0) (ih f (Nat.le_refl f) s hf hs) ?_ (Ty.dataAgg _) rfl (by first | omega | (simp only; omega)) ?_
  · exact ⟨.ptr rfl, trivial⟩
  simp only [putO, Nat.reduceEqDiff, ↓reduceIte]
  try simp only [bS, bA, thenQ, blockQ, noGotoQ]
  refine q0 _ ?_
  clear q0 Q0
  refine MidAt_lit ei23 (by decide) rfl (by decide) (by intro p hp; simp at hp; subst hp; exact ⟨rfl, Ty.cells_len _⟩) ?_
  simp only [putO, bS, bA, tyX, pC, List.length_map]
  simp only [↓bO, go_sem, seval, pC]
  refine y0 _ ?_
  try clear y0 Y0
  refine AWp_seqK fun Y0 y0 => ?_
  refine AWp_block ?_
  refine AWp_loopM (σ := PwS) (mB 41 13) (fun w => w.ok f s) (fun w => [(3, .osl 2 3 (w.acc.map Ty.cells))]) (fun w => [(2, .tok 25 3 w.acc.length), (0, .cells 52 (pC w.s w.b))]) (fun w => w.n) ⟨s.size + 1, [(pwF f s).1], (pwF f s).2.1, (pwF f s).2.2⟩ (PwS.start f s) ?_ (fun w hw => ?_)
  ·
   try simp only [maskL, setsL, putsO, putO, mB, List.set_cons_zero, List.set_cons_succ, seval, bL]
   exact Weak.mk (by simp only [go_sem, Le.refl, Le.any, Le.slNil, Int.natCast_add, Int.cast_ofNat_Int, Int.natCast_one]) (fun _ _ h => h) rfl rfl
  simp only [maskL, setsL, putsO, putO, mB, List.set_cons_zero, List.set_cons_succ, seval]
  have hwl := hw.2.2
  have hb1 : (w.acc.length + 1) * 40 ≤ 140737488355328 := by omega
  have hb2 : w.acc.length + 1 ≤ maxLen := by (simp only [maxLen]; omega)
  refine AWp_seqK fun Y1 y1 => ?_
  refine AWp_seqK fun Y2 y2 => ?_
  refine AWp_region ?_
  iterate 6 (refine aops_chunk 1 fun Q0 q0 => ?_; simp only [↓bO, go_sem, seval, pC, hb1, hb2, List.map_append, List.length_append]; refine q0 _ ?_; clear q0 Q0; simp only [go_sem])
  refine aops_case 12 rfl (fun hc12 => ?_) (fun hc12 => ?_)
  ·
   simp only [List.set_cons_zero, List.set_cons_succ]
   have hb0 : w.b = false := by simpa using hc12
   simp only [hb0]
   refine aops_chunk 1 fun Q0 q0 => ?_
   simp only [↓bO, go_sem, seval, pC, hb1, hb2, List.map_append, List.length_append]
   refine q0 _ ?_
   clear q0 Q0
   simp only [go_sem]
   refine aops_chunk 1 fun Q0 q0 => ?_
   simp only [↓bO, go_sem, seval, pC, hb1, hb2, List.map_append, List.length_append]
   refine PCalls4.at (k := 0) (skip_c w.s bSt false) ?_ (.v _) rfl (by first | omega | (simp only; omega)) ?_
   · exact ⟨.ptr rfl, .v _, trivial⟩
   simp only [putO, Nat.reduceEqDiff, ↓reduceIte]
   try simp only [bS, bA, thenQ, blockQ, noGotoQ]
   refine q0 _ ?_
   clear q0 Q0
   simp only [go_sem]
   simp only [↓bO, go_sem, seval, pC, hb1, hb2, List.map_append, List.length_append]
   refine y2 _ ?_
   try clear y2 Y2
   refine AWp_cond rfl (fun hb15 => ?_) (fun hb15 => ?_)
   ·
    have hS : hasP w.s bSt = true := hb15
    simp only [hS, if_true]
    refine AWp_skip ?_
    try simp only [thenQ, blockQ, noGotoQ]
    refine y1 _ ?_
    try clear y1 Y1
    refine AWp_block ?_
    refine AWp_region ?_
    iterate 2 (refine aops_chunk 1 fun Q0 q0 => ?_; simp only [↓bO, go_sem, seval, pC, hb1, hb2, List.map_append, List.length_append]; refine q0 _ ?_; clear q0 Q0; simp only [go_sem])
    refine aops_chunk 1 fun Q0 q0 => ?_
    simp only [↓bO, go_sem, seval, pC, hb1, hb2, List.map_append, List.length_append]
    have hcs := cutP_size hS
    rw [bSt_size] at hcs
    refine PCalls4.at (k := 0) (ih f (Nat.le_refl f) (cutP w.s bSt) (by have := hw.2.2; omega) (by have := hw.2.2; omega)) ?_ (Ty.dataAgg _) rfl (by first | omega | (simp only; omega)) ?_
    · exact ⟨.ptr rfl, trivial⟩
    simp only [putO, Nat.reduceEqDiff, ↓reduceIte]
    try simp only [bS, bA, thenQ, blockQ, noGotoQ]
    refine q0 _ ?_
    clear q0 Q0
    simp only [go_sem]
    refine aops_chunk 1 fun Q0 q0 => ?_
    simp only [↓bO, go_sem, seval, ↓bs1_1, ↓bs1_2, ↓bs1_3, ↓bs1_4, ↓bs1_5, ↓bs1_6, ↓bs1_7, ↓bs1_8, ↓bs1_9, ↓bs1_10, ↓bs1_11, ↓bs1_12, pC, hb1, hb2, List.map_append, List.length_append]
    refine q0 _ ?_
    clear q0 Q0
    simp only [go_sem]
    refine aops_chunk 1 fun Q0 q0 => ?_
    simp only [↓bO, go_sem, seval, pC, hb1, hb2, List.map_append, List.length_append]
    refine q0 _ ?_
    clear q0 Q0
    simp only [go_sem]
    simp only [↓bO, go_sem, seval, pC, hb1, hb2, List.map_append, List.length_append]
    refine ⟨⟨w.n - 1, w.acc ++ [(pwF f (cutP w.s bSt)).1], (pwF f (cutP w.s bSt)).2.1, (pwF f (cutP w.s bSt)).2.2⟩, hw.next hb0 hS, (by have := hw.2.1; simp only; omega), ?_⟩
    try simp only [maskL, setsL, putsO, putO, mB, List.set_cons_zero, List.set_cons_succ, seval, hb1, hb2, List.map_append, bL, List.length_append]
    exact Weak.mk (by simp only [go_sem, Le.refl, Le.any, Le.slNil, Int.natCast_add, Int.cast_ofNat_Int, Int.natCast_one]) (fun _ _ h => h) rfl rfl
   ·
    have hst := hw.stop (.inr (show hasP w.s bSt = false from hb15))
    have hS : hasP w.s bSt = false := hb15
    simp only [hS, Bool.false_eq_true, if_false]
    refine AWp_exit ?_
    simp only [thenQ, blockQ, noGotoQ, bA, Nat.reduceEqDiff, ↓reduceIte]
    refine y0 _ ?_
    try clear y0 Y0
    refine AWp_seqK fun Y0 y0 => ?_
    refine AWp_region ?_
    iterate 6 (refine aops_chunk 1 fun Q0 q0 => ?_; simp only [↓bO, go_sem, seval, pC]; refine q0 _ ?_; clear q0 Q0; simp only [go_sem])
    refine aops_case 26 rfl (fun hc26 => ?_) (fun hc26 => ?_)
    ·
     simp only [List.set_cons_zero, List.set_cons_succ]
     have hB : w.b = true := by (first | exact hb0 | simpa using hc26)
     iterate 6 (refine aops_chunk 1 fun Q0 q0 => ?_; simp only [↓bO, go_sem, seval, pC]; refine q0 _ ?_; clear q0 Q0; simp only [go_sem])
     simp only [↓bO, go_sem, seval, pC]
     refine y0 _ ?_
     try clear y0 Y0
     refine AWp_seqK fun Y0 y0 => ?_
     refine AWp_seqK fun Y1 y1 => ?_
     refine AWp_region ?_
     iterate 2 (refine aops_chunk 1 fun Q0 q0 => ?_; simp only [↓bO, go_sem, seval, pC]; refine q0 _ ?_; clear q0 Q0; simp only [go_sem])
     simp only [↓bO, go_sem, seval, pC]
     refine y1 _ ?_
     try clear y1 Y1
     refine AWp_cond rfl (fun hb35 => ?_) (fun hb35 => ?_)
     ·
      obtain ⟨t1, hone⟩ := one_of (l := w.acc) (by have h9 := hb35; simp at h9; omega)
      simp only [hone, List.map_cons, List.map_nil]
      refine AWp_seqK fun Y1 y1 => ?_
      refine AWp_region ?_
      iterate 3 (refine aops_chunk 1 fun Q0 q0 => ?_; simp only [↓bO, go_sem, seval, pC]; refine q0 _ ?_; clear q0 Q0; simp only [go_sem])
      simp only [↓bO, go_sem, seval, pC]
      refine y1 _ ?_
      try clear y1 Y1
      refine AWp_ret ?_
      try simp only [thenQ, blockQ, noGotoQ, retQ, aRes, tupOf, bS, bA, aLoad, getO, pack, bL, Nat.reduceAdd, Nat.reduceLeDiff, Nat.reduceEqDiff, ↓reduceIte, ti25, tyX, pC, List.length_map]
      exact absurd (hb0.symm.trans hB) (by simp)
     ·
      have hln : ¬ w.acc.length = 1 := by (have h9 := hb35; simp at h9; omega)
      refine AWp_skip ?_
      try simp only [thenQ, blockQ, noGotoQ]
      refine y0 _ ?_
      try clear y0 Y0
      refine AWp_seqK fun Y0 y0 => ?_
      refine AWp_region ?_
      iterate 2 (refine aops_chunk 1 fun Q0 q0 => ?_; simp only [↓bO, go_sem, seval, pC]; refine q0 _ ?_; clear q0 Q0; simp only [go_sem])
      simp only [↓bO, go_sem, seval, pC]
      refine y0 _ ?_
      try clear y0 Y0
      refine AWp_ret ?_
      try simp only [thenQ, blockQ, noGotoQ, retQ, aRes, tupOf, bS, bA, aLoad, getO, pack, bL, Nat.reduceAdd, Nat.reduceLeDiff, Nat.reduceEqDiff, ↓reduceIte, ti25, tyX, pC, List.length_map]
      exact absurd (hb0.symm.trans hB) (by simp)
    ·
     simp only [List.set_cons_zero, List.set_cons_succ]
     have hB : w.b = false := by (first | exact hb0 | simpa using hc26)
     try simp only [hB]
     refine aops_chunk 1 fun Q0 q0 => ?_
     simp only [↓bO, go_sem, seval, pC]
     refine q0 _ ?_
     clear q0 Q0
     simp only [go_sem]
     refine aops_chunk 1 fun Q0 q0 => ?_
     simp only [↓bO, go_sem, seval, pC]
     refine PCalls4.at (k := 0) (skip_c w.s bRp false) ?_ (.v _) rfl (by first | omega | (simp only; omega)) ?_
     · exact ⟨.ptr rfl, .v _, trivial⟩
     simp only [putO, Nat.reduceEqDiff, ↓reduceIte]
     try simp only [bS, bA, thenQ, blockQ, noGotoQ]
     iterate 4 (refine q0 _ ?_; clear q0 Q0; simp only [go_sem]; refine aops_chunk 1 fun Q0 q0 => ?_; simp only [↓bO, go_sem, seval, pC])
     refine q0 _ ?_
     clear q0 Q0
     simp only [go_sem]
     simp only [↓bO, go_sem, seval, pC]
     refine y0 _ ?_
     try clear y0 Y0
     refine AWp_seqK fun Y0 y0 => ?_
     refine AWp_seqK fun Y1 y1 => ?_
     refine AWp_region ?_
     iterate 2 (refine aops_chunk 1 fun Q0 q0 => ?_; simp only [↓bO, go_sem, seval, pC]; refine q0 _ ?_; clear q0 Q0; simp only [go_sem])
     simp only [↓bO, go_sem, seval, pC]
     refine y1 _ ?_
     try clear y1 Y1
     refine AWp_cond rfl (fun hb35 => ?_) (fun hb35 => ?_)
     ·
      obtain ⟨t1, hone⟩ := one_of (l := w.acc) (by have h9 := hb35; simp at h9; omega)
      simp only [hone, List.map_cons, List.map_nil]
      refine AWp_seqK fun Y1 y1 => ?_
      refine AWp_region ?_
      iterate 3 (refine aops_chunk 1 fun Q0 q0 => ?_; simp only [↓bO, go_sem, seval, pC]; refine q0 _ ?_; clear q0 Q0; simp only [go_sem])
      simp only [↓bO, go_sem, seval, pC]
      refine y1 _ ?_
      try clear y1 Y1
      refine AWp_ret ?_
      try simp only [thenQ, blockQ, noGotoQ, retQ, aRes, tupOf, bS, bA, aLoad, getO, pack, bL, Nat.reduceAdd, Nat.reduceLeDiff, Nat.reduceEqDiff, ↓reduceIte, ti25, tyX, pC, List.length_map]
      rw [hst, hB, pwEnd_go]
      refine ⟨_, _, ⟨rfl, rfl⟩, .data (Ty.dataAgg _), pUnd (by omega) _ _, ?_, ?_, by omega⟩
      · simp only [hone, pwOne_one]; exact Le.refl _
      · first | exact ⟨2, rfl, rfl⟩ | (simp only [hB]; exact ⟨2, rfl, rfl⟩)
     ·
      have hln : ¬ w.acc.length = 1 := by (have h9 := hb35; simp at h9; omega)
      refine AWp_skip ?_
      try simp only [thenQ, blockQ, noGotoQ]
      refine y0 _ ?_
      try clear y0 Y0
      refine AWp_seqK fun Y0 y0 => ?_
      refine AWp_region ?_
      iterate 2 (refine aops_chunk 1 fun Q0 q0 => ?_; simp only [↓bO, go_sem, seval, pC]; refine q0 _ ?_; clear q0 Q0; simp only [go_sem])
      simp only [↓bO, go_sem, seval, pC]
      refine y0 _ ?_
      try clear y0 Y0
      refine AWp_ret ?_
      try simp only [thenQ, blockQ, noGotoQ, retQ, aRes, tupOf, bS, bA, aLoad, getO, pack, bL, Nat.reduceAdd, Nat.reduceLeDiff, Nat.reduceEqDiff, ↓reduceIte, ti25, tyX, pC, List.length_map]
      rw [hst, hB, pwEnd_go]
      refine ⟨_, _, ⟨rfl, rfl⟩, .data (Ty.dataAgg _), pUnd (by omega) _ _, ?_, ?_, by omega⟩
      · simp only [pwOne_more hln]; rw [Ty.cells_eq]; exact Le.agg ⟨.refl _, .refl _, Le.osl _ _ _, trivial⟩
      · first | exact ⟨2, rfl, rfl⟩ | (simp only [hB]; exact ⟨2, rfl, rfl⟩)
  ·
   simp only [List.set_cons_zero, List.set_cons_succ]
   have hb0 : w.b = true := by simpa using hc12
   have hst := hw.stop (.inl hb0)
   iterate 2 (refine aops_chunk 1 fun Q0 q0 => ?_; simp only [↓bO, go_sem, seval, pC]; refine q0 _ ?_; clear q0 Q0; simp only [go_sem])
   simp only [↓bO, go_sem, seval, pC]
   refine y2 _ ?_
   try clear y2 Y2
   refine AWp_cond (b := false) (by first | exact rfl | exact congrArg (fun b => AV.v (.bool b)) hb15) (fun h => (by cases h)) (fun _ => ?_)
   refine AWp_exit ?_
   simp only [thenQ, blockQ, noGotoQ, bA, Nat.reduceEqDiff, ↓reduceIte]
   refine y0 _ ?_
   try clear y0 Y0
   refine AWp_seqK fun Y0 y0 => ?_
   refine AWp_region ?_
   iterate 6 (refine aops_chunk 1 fun Q0 q0 => ?_; simp only [↓bO, go_sem, seval, pC]; refine q0 _ ?_; clear q0 Q0; simp only [go_sem])
   refine aops_case 26 rfl (fun hc26 => ?_) (fun hc26 => ?_)
   ·
    simp only [List.set_cons_zero, List.set_cons_succ]
    have hB : w.b = true := by (first | exact hb0 | simpa using hc26)
    iterate 6 (refine aops_chunk 1 fun Q0 q0 => ?_; simp only [↓bO, go_sem, seval, pC]; refine q0 _ ?_; clear q0 Q0; simp only [go_sem])
    simp only [↓bO, go_sem, seval, pC]
    refine y0 _ ?_
    try clear y0 Y0
    refine AWp_seqK fun Y0 y0 => ?_
    refine AWp_seqK fun Y1 y1 => ?_
    refine AWp_region ?_
    iterate 2 (refine aops_chunk 1 fun Q0 q0 => ?_; simp only [↓bO, go_sem, seval, pC]; refine q0 _ ?_; clear q0 Q0; simp only [go_sem])
    simp only [↓bO, go_sem, seval, pC]
    refine y1 _ ?_
    try clear y1 Y1
    refine AWp_cond rfl (fun hb35 => ?_) (fun hb35 => ?_)
    ·
     obtain ⟨t1, hone⟩ := one_of (l := w.acc) (by have h9 := hb35; simp at h9; omega)
     simp only [hone, List.map_cons, List.map_nil]
     refine AWp_seqK fun Y1 y1 => ?_
     refine AWp_region ?_
     iterate 3 (refine aops_chunk 1 fun Q0 q0 => ?_; simp only [↓bO, go_sem, seval, pC]; refine q0 _ ?_; clear q0 Q0; simp only [go_sem])
     simp only [↓bO, go_sem, seval, pC]
     refine y1 _ ?_
     try clear y1 Y1
     refine AWp_ret ?_
     try simp only [thenQ, blockQ, noGotoQ, retQ, aRes, tupOf, bS, bA, aLoad, getO, pack, bL, Nat.reduceAdd, Nat.reduceLeDiff, Nat.reduceEqDiff, ↓reduceIte, ti25, tyX, pC, List.length_map]
     rw [hst, hB, pwEnd_bad]
     refine ⟨_, _, ⟨rfl, rfl⟩, .data (Ty.dataAgg _), pUnd (by omega) _ _, ?_, ?_, by omega⟩
     · simp only [hone, pwOne_one]; exact Le.refl _
     · first | exact ⟨2, rfl, rfl⟩ | (simp only [hB]; exact ⟨2, rfl, rfl⟩)
    ·
     have hln : ¬ w.acc.length = 1 := by (have h9 := hb35; simp at h9; omega)
     refine AWp_skip ?_
     try simp only [thenQ, blockQ, noGotoQ]
     refine y0 _ ?_
     try clear y0 Y0
     refine AWp_seqK fun Y0 y0 => ?_
     refine AWp_region ?_
     iterate 2 (refine aops_chunk 1 fun Q0 q0 => ?_; simp only [↓bO, go_sem, seval, pC]; refine q0 _ ?_; clear q0 Q0; simp only [go_sem])
     simp only [↓bO, go_sem, seval, pC]
     refine y0 _ ?_
     try clear y0 Y0
     refine AWp_ret ?_
     try simp only [thenQ, blockQ, noGotoQ, retQ, aRes, tupOf, bS, bA, aLoad, getO, pack, bL, Nat.reduceAdd, Nat.reduceLeDiff, Nat.reduceEqDiff, ↓reduceIte, ti25, tyX, pC, List.length_map]
     rw [hst, hB, pwEnd_bad]
     refine ⟨_, _, ⟨rfl, rfl⟩, .data (Ty.dataAgg _), pUnd (by omega) _ _, ?_, ?_, by omega⟩
     · simp only [pwOne_more hln]; rw [Ty.cells_eq]; exact Le.agg ⟨.refl _, .refl _, Le.osl _ _ _, trivial⟩
     · first | exact ⟨2, rfl, rfl⟩ | (simp only [hB]; exact ⟨2, rfl, rfl⟩)
   ·
    simp only [List.set_cons_zero, List.set_cons_succ]
    have hB : w.b = false := by (first | exact hb0 | simpa using hc26)
    try simp only [hB]
    refine aops_chunk 1 fun Q0 q0 => ?_
    simp only [↓bO, go_sem, seval, pC]
    refine q0 _ ?_
    clear q0 Q0
    simp only [go_sem]
    refine aops_chunk 1 fun Q0 q0 => ?_
    simp only [↓bO, go_sem, seval, pC]
    refine PCalls4.at (k := 0) (skip_c w.s bRp false) ?_ (.v _) rfl (by first | omega | (simp only; omega)) ?_
    · exact ⟨.ptr rfl, .v _, trivial⟩
    simp only [putO, Nat.reduceEqDiff, ↓reduceIte]
    try simp only [bS, bA, thenQ, blockQ, noGotoQ]
    iterate 4 (refine q0 _ ?_; clear q0 Q0; simp only [go_sem]; refine aops_chunk 1 fun Q0 q0 => ?_; simp only [↓bO, go_sem, seval, pC])
    refine q0 _ ?_
    clear q0 Q0
    simp only [go_sem]
    simp only [↓bO, go_sem, seval, pC]
    refine y0 _ ?_
    try clear y0 Y0
    refine AWp_seqK fun Y0 y0 => ?_
    refine AWp_seqK fun Y1 y1 => ?_
    refine AWp_region ?_
    iterate 2 (refine aops_chunk 1 fun Q0 q0 => ?_; simp only [↓bO, go_sem, seval, pC]; refine q0 _ ?_; clear q0 Q0; simp only [go_sem])
    simp only [↓bO, go_sem, seval, pC]
    refine y1 _ ?_
    try clear y1 Y1
    refine AWp_cond rfl (fun hb35 => ?_) (fun hb35 => ?_)
    ·
     obtain ⟨t1, hone⟩ := one_of (l := w.acc) (by have h9 := hb35; simp at h9; omega)
     simp only [hone, List.map_cons, List.map_nil]
     refine AWp_seqK fun Y1 y1 => ?_
     refine AWp_region ?_
     iterate 3 (refine aops_chunk 1 fun Q0 q0 => ?_; simp only [↓bO, go_sem, seval, pC]; refine q0 _ ?_; clear q0 Q0; simp only [go_sem])
     simp only [↓bO, go_sem, seval, pC]
     refine y1 _ ?_
     try clear y1 Y1
     refine AWp_ret ?_
     try simp only [thenQ, blockQ, noGotoQ, retQ, aRes, tupOf, bS, bA, aLoad, getO, pack, bL, Nat.reduceAdd, Nat.reduceLeDiff, Nat.reduceEqDiff, ↓reduceIte, ti25, tyX, pC, List.length_map]
     exact absurd (hb0.symm.trans hB) (by simp)
    ·
     have hln : ¬ w.acc.length = 1 := by (have h9 := hb35; simp at h9; omega)
     refine AWp_skip ?_
     try simp only [thenQ, blockQ, noGotoQ]
     refine y0 _ ?_
     try clear y0 Y0
     refine AWp_seqK fun Y0 y0 => ?_
     refine AWp_region ?_
     iterate 2 (refine aops_chunk 1 fun Q0 q0 => ?_; simp only [↓bO, go_sem, seval, pC]; refine q0 _ ?_; clear q0 Q0; simp only [go_sem])
     simp only [↓bO, go_sem, seval, pC]
     refine y0 _ ?_
     try clear y0 Y0
     refine AWp_ret ?_
     try simp only [thenQ, blockQ, noGotoQ, retQ, aRes, tupOf, bS, bA, aLoad, getO, pack, bL, Nat.reduceAdd, Nat.reduceLeDiff, Nat.reduceEqDiff, ↓reduceIte, ti25, tyX, pC, List.length_map]
     exact absurd (hb0.symm.trans hB) (by simp)
theorem pwhole_s (f : Nat) (ih : ∀ g, g ≤ f → PwOk g) (s : ByteArray) (hf : s.size < f + 1) (hs : s.size ≤ 1048576) : PCalls4 16 [.ptr 0 0] s false (.agg (pwF (f + 1) s).1.cells) (pwF (f + 1) s).2.1 (pwF (f + 1) s).2.2 := by
  refine ACalls.clean (C := fun r os' => r = _ ∧ os' = _) ?_
  refine ACalls_intro Tryd.func16 (by kernel_rfl) rfl (by rw [Tryd.ntmps16]; simp) (fun hm => ?_)
  simp only [Tryd.ntmps16, Tryd.results16, List.length_cons, List.length_nil, Nat.reduceAdd, Nat.reduceSub, List.replicate_succ, List.replicate_zero, List.cons_append, List.nil_append]
  refine AWp_seqK fun Y0 y0 => ?_
  refine AWp_region ?_
  simp only [↓bO, go_sem, seval, pC]
  refine y0 _ ?_
  try clear y0 Y0
  refine AWp_seqK fun Y0 y0 => ?_
  refine AWp_region ?_
  iterate 2 (refine aops_chunk 1 fun Q0 q0 => ?_; simp only [↓bO, go_sem, seval, pC]; refine q0 _ ?_; clear q0 Q0; simp only [go_sem])
  simp only [↓bO, go_sem, seval, pC]
  refine y0 _ ?_
  try clear y0 Y0
  refine AWp_joinE (σ := PwR) (mB 41 13) (fun j => []) (fun j => [(2, .cells 25 j.1.cells), (0, .cells 52 (pC j.2.1 j.2.2))]) (fun j => s.size ≤ 1048576 ∧ pwHead (pwF f) s = j) ?_ (fun j hj => ?_)
  ·
   refine AWp_block ?_
   refine AWp_weak (Weak.recell (id := 2) (t := 25) [.v (.int .i64 0), .v (.int .i64 0), .sl 3 []] rfl ⟨.refl _, .refl _, Le.slNil 3, trivial⟩) ?_
   simp only [putO, Nat.reduceEqDiff, ↓reduceIte]
   refine AWp_seqK fun Y0 y0 => ?_
   refine AWp_region ?_
   iterate 4 (refine aops_chunk 1 fun Q0 q0 => ?_; simp only [↓bO, go_sem, seval, pC]; refine q0 _ ?_; clear q0 Q0; simp only [go_sem])
   simp only [↓bO, go_sem, seval, pC]
   refine y0 _ ?_
   try clear y0 Y0
   refine AWp_cond rfl (fun hb7 => ?_) (fun hb7 => ?_)
   ·
    exact absurd hb7 (by simp)
   ·
    refine AWp_seqK fun Y0 y0 => ?_
    refine AWp_region ?_
    refine aops_chunk 1 fun Q0 q0 => ?_
    simp only [↓bO, go_sem, seval, pC]
    refine q0 _ ?_
    clear q0 Q0
    simp only [go_sem]
    refine aops_chunk 1 fun Q0 q0 => ?_
    simp only [↓bO, go_sem, seval, pC]
    refine PCalls4.at (k := 0) (skip_c s bInt false) ?_ (.v _) rfl (by first | omega | (simp only; omega)) ?_
    · exact ⟨.ptr rfl, .v _, trivial⟩
    simp only [putO, Nat.reduceEqDiff, ↓reduceIte]
    try simp only [bS, bA, thenQ, blockQ, noGotoQ]
    refine q0 _ ?_
    clear q0 Q0
    simp only [go_sem]
    simp only [↓bO, go_sem, seval, pC]
    refine y0 _ ?_
    try clear y0 Y0
    refine AWp_cond rfl (fun hb13 => ?_) (fun hb13 => ?_)
    ·
     have hA : hasP s bInt = true := hb13
     simp only [hA, if_true]
     have hbs : pwHead (pwF f) s = (.mk 2 0 [], cutP s bInt, false) := by (unfold pwHead; rw [if_pos hA])
     refine AWp_region ?_
     refine aops_chunk 1 fun Q0 q0 => ?_
     simp only [↓bO, go_sem, seval, pC]
     refine q0 _ ?_
     clear q0 Q0
     simp only [go_sem]
     simp only [↓bO, go_sem, seval, pC]
     try simp only [maskL, setsL, putsO, putO, mB, List.set_cons_zero, List.set_cons_succ, seval]
     refine ⟨(pwHead (pwF f) s), ⟨hs, rfl⟩, ?_⟩
     rw [hbs]
     try simp only [Ty.pcells, List.map_nil]
     exact Weak.mk (by simp only [go_sem, Le.refl, Le.any]) (fun _ _ h => h) rfl rfl
    ·
     have hA : hasP s bInt = false := hb13
     simp only [hA, Bool.false_eq_true, if_false]
     refine AWp_seqK fun Y0 y0 => ?_
     refine AWp_region ?_
     refine aops_chunk 1 fun Q0 q0 => ?_
     simp only [↓bO, go_sem, seval, pC]
     refine q0 _ ?_
     clear q0 Q0
     simp only [go_sem]
     refine aops_chunk 1 fun Q0 q0 => ?_
     simp only [↓bO, go_sem, seval, pC]
     refine PCalls4.at (k := 0) (skip_c s bBool false) ?_ (.v _) rfl (by first | omega | (simp only; omega)) ?_
     · exact ⟨.ptr rfl, .v _, trivial⟩
     simp only [putO, Nat.reduceEqDiff, ↓reduceIte]
     try simp only [bS, bA, thenQ, blockQ, noGotoQ]
     refine q0 _ ?_
     clear q0 Q0
     simp only [go_sem]
     simp only [↓bO, go_sem, seval, pC]
     refine y0 _ ?_
     try clear y0 Y0
     refine AWp_cond rfl (fun hb17 => ?_) (fun hb17 => ?_)
     ·
      have hB : hasP s bBool = true := hb17
      simp only [hB, if_true]
      have hbs : pwHead (pwF f) s = (.mk 3 0 [], cutP s bBool, false) := by (unfold pwHead; rw [if_neg (by simp [hA]), if_pos hB])
      refine AWp_region ?_
      refine aops_chunk 1 fun Q0 q0 => ?_
      simp only [↓bO, go_sem, seval, pC]
      refine q0 _ ?_
      clear q0 Q0
      simp only [go_sem]
      simp only [↓bO, go_sem, seval, pC]
      try simp only [maskL, setsL, putsO, putO, mB, List.set_cons_zero, List.set_cons_succ, seval]
      refine ⟨(pwHead (pwF f) s), ⟨hs, rfl⟩, ?_⟩
      rw [hbs]
      try simp only [Ty.pcells, List.map_nil]
      exact Weak.mk (by simp only [go_sem, Le.refl, Le.any]) (fun _ _ h => h) rfl rfl
     ·
      have hB : hasP s bBool = false := hb17
      simp only [hB, Bool.false_eq_true, if_false]
      refine AWp_seqK fun Y0 y0 => ?_
      refine AWp_region ?_
      refine aops_chunk 1 fun Q0 q0 => ?_
      simp only [↓bO, go_sem, seval, pC]
      refine q0 _ ?_
      clear q0 Q0
      simp only [go_sem]
      refine aops_chunk 1 fun Q0 q0 => ?_
      simp only [↓bO, go_sem, seval, pC]
      refine PCalls4.at (k := 0) (skip_c s bLp false) ?_ (.v _) rfl (by first | omega | (simp only; omega)) ?_
      · exact ⟨.ptr rfl, .v _, trivial⟩
      simp only [putO, Nat.reduceEqDiff, ↓reduceIte]
      try simp only [bS, bA, thenQ, blockQ, noGotoQ]
      refine q0 _ ?_
      clear q0 Q0
      simp only [go_sem]
      simp only [↓bO, go_sem, seval, pC]
      refine y0 _ ?_
      try clear y0 Y0
      refine AWp_cond rfl (fun hb21 => ?_) (fun hb21 => ?_)
      ·
       have hC : hasP s bLp = true := hb21
       simp only [hC, if_true]
       have hbs : pwHead (pwF f) s = pwInner (pwF f) (cutP s bLp) := by (unfold pwHead; rw [if_neg (by simp [hA]), if_neg (by simp [hB]), if_pos hC])
       have hcs := cutP_size hC
       rw [bLp_size] at hcs
       refine AWp_region ?_
       refine aops_chunk 1 fun Q0 q0 => ?_
       simp only [↓bO, go_sem, seval, pC]
       refine q0 _ ?_
       clear q0 Q0
       simp only [go_sem]
       refine aops_chunk 1 fun Q0 q0 => ?_
       simp only [↓bO, go_sem, seval, pC]
       refine PCalls4.at (k := 0) (inner_c f ih (cutP s bLp) (by omega) (by omega)) ?_ (Ty.dataAgg _) rfl (by first | omega | (simp only; omega)) ?_
       · exact ⟨.ptr rfl, trivial⟩
       simp only [putO, Nat.reduceEqDiff, ↓reduceIte]
       try simp only [bS, bA, thenQ, blockQ, noGotoQ]
       refine q0 _ ?_
       clear q0 Q0
       simp only [go_sem]
       simp only [↓bO, go_sem, seval, pC]
       try simp only [maskL, setsL, putsO, putO, mB, List.set_cons_zero, List.set_cons_succ, seval]
       refine ⟨(pwHead (pwF f) s), ⟨hs, rfl⟩, ?_⟩
       rw [hbs]
       try simp only [Ty.pcells, List.map_nil]
       exact Weak.mk (by simp only [go_sem, Le.refl, Le.any]) (fun _ _ h => h) rfl rfl
      ·
       have hC : hasP s bLp = false := hb21
       simp only [hC, Bool.false_eq_true, if_false]
       have hbs : pwHead (pwF f) s = pwName s := by (unfold pwHead; rw [if_neg (by simp [hA]), if_neg (by simp [hB]), if_neg (by simp [hC])])
       refine AWp_region ?_
       refine aops_chunk 1 fun Q0 q0 => ?_
       simp only [↓bO, go_sem, seval, pC]
       refine q0 _ ?_
       clear q0 Q0
       simp only [go_sem]
       refine aops_chunk 1 fun Q0 q0 => ?_
       simp only [↓bO, go_sem, seval, pC]
       refine PCalls4.at (k := 0) (name_c s hs) ?_ (Ty.dataAgg _) rfl (by first | omega | (simp only; omega)) ?_
       · exact ⟨.ptr rfl, trivial⟩
       simp only [putO, Nat.reduceEqDiff, ↓reduceIte]
       try simp only [bS, bA, thenQ, blockQ, noGotoQ]
       refine q0 _ ?_
       clear q0 Q0
       simp only [go_sem]
       simp only [↓bO, go_sem, seval, pC]
       try simp only [maskL, setsL, putsO, putO, mB, List.set_cons_zero, List.set_cons_succ, seval]
       refine ⟨(pwHead (pwF f) s), ⟨hs, rfl⟩, ?_⟩
       rw [hbs]
       try simp only [Ty.pcells, List.map_nil]
       exact Weak.mk (by simp only [go_sem, Le.refl, Le.any]) (fun _ _ h => h) rfl rfl
  simp only [maskL, setsL, putsO, putO, mB, List.set_cons_zero, List.set_cons_succ, seval]
  have hj := hj.2
  have hjm : j.2.1.size ≤ s.size := by (rw [← hj]; exact (pwHead_bnd (pwF_bnd f) s).le)
  refine AWp_seqK fun Y0 y0 => ?_
  refine AWp_seqK fun Y1 y1 => ?_
  refine AWp_region ?_
  iterate 6 (refine aops_chunk 1 fun Q0 q0 => ?_; simp only [↓bO, go_sem, seval, pC]; refine q0 _ ?_; clear q0 Q0; simp only [go_sem])
  refine aops_case 31 rfl (fun hc31 => ?_) (fun hc31 => ?_)
  ·
   simp only [List.set_cons_zero, List.set_cons_succ]
   have hj0 : j.2.2 = false := by simpa using hc31
   simp only [hj0]
   refine aops_chunk 1 fun Q0 q0 => ?_
   simp only [↓bO, go_sem, seval, pC]
   refine q0 _ ?_
   clear q0 Q0
   simp only [go_sem]
   refine aops_chunk 1 fun Q0 q0 => ?_
   simp only [↓bO, go_sem, seval, pC]
   refine PCalls4.at (k := 0) (skip_c j.2.1 bAr false) ?_ (.v _) rfl (by first | omega | (simp only; omega)) ?_
   · exact ⟨.ptr rfl, .v _, trivial⟩
   simp only [putO, Nat.reduceEqDiff, ↓reduceIte]
   try simp only [bS, bA, thenQ, blockQ, noGotoQ]
   refine q0 _ ?_
   clear q0 Q0
   simp only [go_sem]
   simp only [↓bO, go_sem, seval, pC]
   refine y1 _ ?_
   try clear y1 Y1
   refine AWp_cond rfl (fun hb34 => ?_) (fun hb34 => ?_)
   ·
    have hD : hasP j.2.1 bAr = true := hb34
    simp only [hD, if_true]
    have hcd := cutP_size hD
    rw [bAr_size] at hcd
    refine AAny_start [] 6 rfl mixed (trivial) rfl ?_
    dsimp only
    refine AAny_takeK 1 rfl (by kernel_rfl) (by kernel_rfl) (by kernel_rfl) (fun _ _ h => h) fun Q0 q0 => ?_
    simp only [↓bO, go_sem, seval, pC]
    refine q0 _ ?_
    clear q0 Q0
    refine AAny_all2 (i := 0) (j := 2) (by kernel_rfl) ?_ ?_
    ·
     refine aAt_op rfl rfl fun Q0 q0 => ?_
     simp only [↓bO, go_sem, seval, pC]
     refine q0 _ ⟨trivial, ?_⟩
     clear q0 Q0
     refine AAny_all1 (i := 2) (by kernel_rfl) ?_
     ·
      refine aAt_op rfl rfl fun Q0 q0 => ?_
      simp only [↓bO, go_sem, seval, pC]
      refine PCalls4.at (k := 0) (ih f (Nat.le_refl f) (cutP j.2.1 bAr) (by omega) (by omega)) ?_ (Ty.dataAgg _) rfl (by first | omega | (simp only; omega)) ?_
      · exact ⟨.ptr rfl, trivial⟩
      simp only [putO, Nat.reduceEqDiff, ↓reduceIte]
      try simp only [bS, bA]
      refine q0 _ ⟨trivial, ?_⟩
      clear q0 Q0
      refine AAny_all1 (i := 3) (by kernel_rfl) ?_
      ·
       refine aAt_op rfl rfl fun Q0 q0 => ?_
       simp only [↓bO, go_sem, seval, ↓bs2_1, ↓bs2_2, ↓bs2_3, ↓bs2_4, ↓bs2_5, ↓bs2_6, ↓bs2_7, ↓bs2_8, ↓bs2_9, ↓bs2_10, ↓bs2_11, ↓bs2_12, pC]
       refine q0 _ ⟨trivial, ?_⟩
       clear q0 Q0
       refine AAny_all1 (i := 4) (by kernel_rfl) ?_
       ·
        refine aAt_op rfl rfl fun Q0 q0 => ?_
        simp only [↓bO, go_sem, seval, pC]
        refine q0 _ ⟨trivial, ?_⟩
        clear q0 Q0
        refine AAny_all1 (i := 5) (by kernel_rfl) ?_
        ·
         refine aAt_op rfl rfl fun Q0 q0 => ?_
         simp only [↓bO, go_sem, seval, pC]
         refine q0 _ ⟨trivial, ?_⟩
         clear q0 Q0
         refine AAny_done (by kernel_rfl) ?_
         simp only [thenQ, blockQ, noGotoQ]
         refine y0 _ ?_
         try clear y0 Y0
         refine AWp_seqK fun Y0 y0 => ?_
         refine AWp_region ?_
         refine aops_chunk 1 fun Q0 q0 => ?_
         simp only [↓bO, go_sem, seval, pC]
         refine q0 _ ?_
         clear q0 Q0
         simp only [go_sem]
         simp only [↓bO, go_sem, seval, pC]
         refine y0 _ ?_
         try clear y0 Y0
         refine AWp_ret ?_
         try simp only [thenQ, blockQ, noGotoQ, retQ, aRes, tupOf, bS, bA, aLoad, getO, pack, bL, Nat.reduceAdd, Nat.reduceLeDiff, Nat.reduceEqDiff, ↓reduceIte, ti25, tyX, pC, List.length_map]
         have hF : pwF (f + 1) s = pwTail (pwF f) j := by rw [pwF, hj]
         rw [hF]
         rw [pwTail, if_pos ⟨hj0, hD⟩]
         refine ⟨_, _, ⟨rfl, rfl⟩, .data (Ty.dataAgg _), pUnd (by omega) _ _, ?_, ?_, by omega⟩
         · first | exact Le.refl _ | (simp only [Ty.pcells, List.map_cons, List.map_nil]; exact Le.refl _)
         · first | exact ⟨2, rfl, rfl⟩ | (simp only [hj0]; exact ⟨2, rfl, rfl⟩)
    ·
     refine aAt_op rfl rfl fun Q0 q0 => ?_
     simp only [↓bO, go_sem, seval, pC]
     refine PCalls4.at (k := 0) (ih f (Nat.le_refl f) (cutP j.2.1 bAr) (by omega) (by omega)) ?_ (Ty.dataAgg _) rfl (by first | omega | (simp only; omega)) ?_
     · exact ⟨.ptr rfl, trivial⟩
     simp only [putO, Nat.reduceEqDiff, ↓reduceIte]
     try simp only [bS, bA]
     refine q0 _ ⟨trivial, ?_⟩
     clear q0 Q0
     refine AAny_all1 (i := 0) (by kernel_rfl) ?_
     ·
      refine aAt_op rfl rfl fun Q0 q0 => ?_
      simp only [↓bO, go_sem, seval, pC]
      refine q0 _ ⟨trivial, ?_⟩
      clear q0 Q0
      refine AAny_all1 (i := 3) (by kernel_rfl) ?_
      ·
       refine aAt_op rfl rfl fun Q0 q0 => ?_
       simp only [↓bO, go_sem, seval, ↓bs2_1, ↓bs2_2, ↓bs2_3, ↓bs2_4, ↓bs2_5, ↓bs2_6, ↓bs2_7, ↓bs2_8, ↓bs2_9, ↓bs2_10, ↓bs2_11, ↓bs2_12, pC]
       refine q0 _ ⟨trivial, ?_⟩
       clear q0 Q0
       refine AAny_all1 (i := 4) (by kernel_rfl) ?_
       ·
        refine aAt_op rfl rfl fun Q0 q0 => ?_
        simp only [↓bO, go_sem, seval, pC]
        refine q0 _ ⟨trivial, ?_⟩
        clear q0 Q0
        refine AAny_all1 (i := 5) (by kernel_rfl) ?_
        ·
         refine aAt_op rfl rfl fun Q0 q0 => ?_
         simp only [↓bO, go_sem, seval, pC]
         refine q0 _ ⟨trivial, ?_⟩
         clear q0 Q0
         refine AAny_done (by kernel_rfl) ?_
         simp only [thenQ, blockQ, noGotoQ]
         refine y0 _ ?_
         try clear y0 Y0
         refine AWp_seqK fun Y0 y0 => ?_
         refine AWp_region ?_
         refine aops_chunk 1 fun Q0 q0 => ?_
         simp only [↓bO, go_sem, seval, pC]
         refine q0 _ ?_
         clear q0 Q0
         simp only [go_sem]
         simp only [↓bO, go_sem, seval, pC]
         refine y0 _ ?_
         try clear y0 Y0
         refine AWp_ret ?_
         try simp only [thenQ, blockQ, noGotoQ, retQ, aRes, tupOf, bS, bA, aLoad, getO, pack, bL, Nat.reduceAdd, Nat.reduceLeDiff, Nat.reduceEqDiff, ↓reduceIte, ti25, tyX, pC, List.length_map]
         have hF : pwF (f + 1) s = pwTail (pwF f) j := by rw [pwF, hj]
         rw [hF]
         rw [pwTail, if_pos ⟨hj0, hD⟩]
         refine ⟨_, _, ⟨rfl, rfl⟩, .data (Ty.dataAgg _), pUnd (by omega) _ _, ?_, ?_, by omega⟩
         · first | exact Le.refl _ | (simp only [Ty.pcells, List.map_cons, List.map_nil]; exact Le.refl _)
         · first | exact ⟨2, rfl, rfl⟩ | (simp only [hj0]; exact ⟨2, rfl, rfl⟩)
   ·
    have hD : hasP j.2.1 bAr = false := hb34
    simp only [hD, Bool.false_eq_true, if_false]
    refine AWp_skip ?_
    try simp only [thenQ, blockQ, noGotoQ]
    refine y0 _ ?_
    try clear y0 Y0
    refine AWp_seqK fun Y0 y0 => ?_
    refine AWp_region ?_
    refine aops_chunk 1 fun Q0 q0 => ?_
    simp only [↓bO, go_sem, seval, pC]
    refine q0 _ ?_
    clear q0 Q0
    simp only [go_sem]
    simp only [↓bO, go_sem, seval, pC]
    refine y0 _ ?_
    try clear y0 Y0
    refine AWp_ret ?_
    try simp only [thenQ, blockQ, noGotoQ, retQ, aRes, tupOf, bS, bA, aLoad, getO, pack, bL, Nat.reduceAdd, Nat.reduceLeDiff, Nat.reduceEqDiff, ↓reduceIte, ti25, tyX, pC, List.length_map]
    have hF : pwF (f + 1) s = pwTail (pwF f) j := by rw [pwF, hj]
    rw [hF]
    rw [pwTail, if_neg fun h => by rw [hD] at h; cases h.2]
    try simp only [hj0]
    refine ⟨_, _, ⟨rfl, rfl⟩, .data (Ty.dataAgg _), pUnd (by omega) _ _, ?_, ?_, by omega⟩
    · first | exact Le.refl _ | (simp only [Ty.pcells, List.map_cons, List.map_nil]; exact Le.refl _)
    · first | exact ⟨2, rfl, rfl⟩ | (simp only [hj0]; exact ⟨2, rfl, rfl⟩)
  ·
   simp only [List.set_cons_zero, List.set_cons_succ]
   have hj0 : j.2.2 = true := by simpa using hc31
   iterate 2 (refine aops_chunk 1 fun Q0 q0 => ?_; simp only [↓bO, go_sem, seval, pC]; refine q0 _ ?_; clear q0 Q0; simp only [go_sem])
   simp only [↓bO, go_sem, seval, pC]
   refine y1 _ ?_
   try clear y1 Y1
   refine AWp_cond (b := false) (by first | exact rfl | exact congrArg (fun b => AV.v (.bool b)) hb34) (fun h => (by cases h)) (fun _ => ?_)
   refine AWp_skip ?_
   try simp only [thenQ, blockQ, noGotoQ]
   refine y0 _ ?_
   try clear y0 Y0
   refine AWp_seqK fun Y0 y0 => ?_
   refine AWp_region ?_
   refine aops_chunk 1 fun Q0 q0 => ?_
   simp only [↓bO, go_sem, seval, pC]
   refine q0 _ ?_
   clear q0 Q0
   simp only [go_sem]
   simp only [↓bO, go_sem, seval, pC]
   refine y0 _ ?_
   try clear y0 Y0
   refine AWp_ret ?_
   try simp only [thenQ, blockQ, noGotoQ, retQ, aRes, tupOf, bS, bA, aLoad, getO, pack, bL, Nat.reduceAdd, Nat.reduceLeDiff, Nat.reduceEqDiff, ↓reduceIte, ti25, tyX, pC, List.length_map]
   have hF : pwF (f + 1) s = pwTail (pwF f) j := by rw [pwF, hj]
   rw [hF]
   rw [pwTail, if_neg fun h => by rw [hj0] at h; cases h.1]
   refine ⟨_, _, ⟨rfl, rfl⟩, .data (Ty.dataAgg _), pUnd (by omega) _ _, ?_, ?_, by omega⟩
   · first | exact Le.refl _ | (simp only [Ty.pcells, List.map_cons, List.map_nil]; exact Le.refl _)
   · first | exact ⟨2, rfl, rfl⟩ | (simp only [hj0]; exact ⟨2, rfl, rfl⟩)
theorem pwhole_c : ∀ f, PwOk f := by
  intro f
  induction f using Nat.strongRecOn with
  | _ f ih =>
    intro s hf hs
    match f, ih, hf with
    | 0, _, hf => omega
    | f + 1, ih, hf => exact pwhole_s f (fun g hg => ih g (by omega)) s hf hs
def pwParse (s : ByteArray) : Ty × Int := if (pwF (s.size + 1) s).2.2 = false ∧ (pwF (s.size + 1) s).2.1 = ByteArray.empty ∧ (pwF (s.size + 1) s).1.ptx = s then ((pwF (s.size + 1) s).1, 0) else (.mk 0 0 [], 3)
theorem eqS_no {a b : ByteArray} (h : eqS a b = false) : a ≠ b := fun e => by rw [eqS_iff.2 e] at h; cases h
theorem pwParse_no {s : ByteArray} (h : ¬ ((pwF (s.size + 1) s).2.2 = false ∧ (pwF (s.size + 1) s).2.1 = ByteArray.empty ∧ (pwF (s.size + 1) s).1.ptx = s)) : pwParse s = (.mk 0 0 [], 3) := if_neg h
theorem pwParse_yes {s : ByteArray} (h : (pwF (s.size + 1) s).2.2 = false ∧ (pwF (s.size + 1) s).2.1 = ByteArray.empty ∧ (pwF (s.size + 1) s).1.ptx = s) : pwParse s = ((pwF (s.size + 1) s).1, 0) := if_pos h
theorem tyZ_le {e : Int} : Le (.tup [.agg [.v (.int .i64 0), .v (.int .i64 0), .v (.slice none 0 0)], .v (.int .i64 e)]) (.tup [.agg (Ty.mk 0 0 []).cells, .v (.int .i64 e)]) := Le.tup ⟨zT_le, .refl _, trivial⟩
theorem SParse_pure (s : ByteArray) (hs : s.size ≤ 524287) : APure Tryd.prog 6 [.v (.string s)] (.tup [.agg (pwParse s).1.cells, .v (.int .i64 (pwParse s).2)]) := by
  refine APure.mkL (.cons (.v _) .nil) (.tup (.cons (Ty.dataAgg _) (.cons (.v _) .nil))) ?_
  refine ACalls_intro Tryd.func6 (by kernel_rfl) rfl (by rw [Tryd.ntmps6]; simp) (fun hm => ?_)
  simp only [Tryd.ntmps6, Tryd.results6, List.length_cons, List.length_nil, Nat.reduceAdd, Nat.reduceSub, List.replicate_succ, List.replicate_zero, List.cons_append, List.nil_append]
  have hcb : (pwF (s.size + 1) s).1.cnt + 2 * (pwF (s.size + 1) s).2.1.size ≤ 2 * s.size + 1 := pwF_bnd (s.size + 1) s
  refine AWp_seqK fun Y0 y0 => ?_
  refine AWp_region ?_
  refine aops_chunk 1 fun Q0 q0 => ?_
  simp only [↓bO, go_sem, seval, pC]
  refine q0 _ ?_
  clear q0 Q0
  simp only [go_sem]
  simp only [↓bO, go_sem, seval, pC]
  refine y0 _ ?_
  try clear y0 Y0
  refine AWp_seqK fun Y0 y0 => ?_
  refine AWp_region ?_
  iterate 3 (refine aops_chunk 1 fun Q0 q0 => ?_; simp only [↓bO, go_sem, seval, pC]; refine q0 _ ?_; clear q0 Q0; simp only [go_sem])
  simp only [↓bO, go_sem, seval, pC]
  refine y0 _ ?_
  try clear y0 Y0
  refine AWp_seqK fun Y0 y0 => ?_
  refine AWp_region ?_
  refine aops_chunk 1 fun Q0 q0 => ?_
  simp only [↓bO, go_sem, seval, pC]
  refine q0 _ ?_
  clear q0 Q0
  simp only [go_sem]
  refine aops_chunk 1 fun Q0 q0 => ?_
  simp only [↓bO, go_sem, seval, pC]
  refine PCalls4.at (k := 1) (pwhole_c (s.size + 1) s (by omega) (by omega)) ?_ (Ty.dataAgg _) rfl (by first | omega | (simp only; omega)) ?_
  · exact ⟨.ptr rfl, trivial⟩
  simp only [putO, Nat.reduceEqDiff, ↓reduceIte]
  try simp only [bS, bA, thenQ, blockQ, noGotoQ]
  refine q0 _ ?_
  clear q0 Q0
  simp only [go_sem]
  refine aops_chunk 1 fun Q0 q0 => ?_
  simp only [↓bO, go_sem, seval, pC]
  refine q0 _ ?_
  clear q0 Q0
  simp only [go_sem]
  simp only [↓bO, go_sem, seval, pC]
  refine y0 _ ?_
  try clear y0 Y0
  refine AWp_seqK fun Y0 y0 => ?_
  refine AWp_seqK fun Y1 y1 => ?_
  refine AWp_region ?_
  iterate 5 (refine aops_chunk 1 fun Q0 q0 => ?_; simp only [↓bO, go_sem, seval, pC]; refine q0 _ ?_; clear q0 Q0; simp only [go_sem])
  refine aops_case 15 rfl (fun hc15 => ?_) (fun hc15 => ?_)
  ·
   simp only [List.set_cons_zero, List.set_cons_succ]
   have hno : (pwF (s.size + 1) s).2.2 = true := by simpa using hc15
   have hP := pwParse_no (s := s) (fun h => by rw [hno] at h; cases h.1)
   iterate 11 (refine aops_chunk 1 fun Q0 q0 => ?_; simp only [↓bO, go_sem, seval, pC]; refine q0 _ ?_; clear q0 Q0; simp only [go_sem])
   simp only [↓bO, go_sem, seval, pC]
   refine y1 _ ?_
   try clear y1 Y1
   refine AWp_cond (b := true) (by first | exact rfl | exact congrArg (fun b => AV.v (.bool b)) hb27) (fun _ => ?_) (fun h => (by cases h))
   refine AWp_seqK fun Y1 y1 => ?_
   refine AWp_region ?_
   iterate 2 (refine aops_chunk 1 fun Q0 q0 => ?_; simp only [↓bO, go_sem, seval, pC]; refine q0 _ ?_; clear q0 Q0; simp only [go_sem])
   simp only [↓bO, go_sem, seval, pC]
   refine y1 _ ?_
   try clear y1 Y1
   refine AWp_ret ?_
   try simp only [thenQ, blockQ, noGotoQ, retQ, aRes, tupOf, bS, bA, aLoad, getO, pack, bL, Nat.reduceAdd, Nat.reduceLeDiff, Nat.reduceEqDiff, ↓reduceIte, ti25, tyX, pC, List.length_map]
   rw [hP]
   first | exact tyZ_le | exact Le.refl _
  ·
   simp only [List.set_cons_zero, List.set_cons_succ]
   have hg : (pwF (s.size + 1) s).2.2 = false := by simpa using hc15
   iterate 7 (refine aops_chunk 1 fun Q0 q0 => ?_; simp only [↓bO, go_sem, seval, pC]; refine q0 _ ?_; clear q0 Q0; simp only [go_sem])
   refine aops_case 22 rfl (fun hc22 => ?_) (fun hc22 => ?_)
   ·
    simp only [List.set_cons_zero, List.set_cons_succ]
    have hP : pwParse s = (.mk 0 0 [], 3) := by (first | exact hP | exact pwParse_no (s := s) (fun h => eqS_no (a := (pwF (s.size + 1) s).2.1) (b := ByteArray.empty) (eqS_ne hc22) h.2.1))
    iterate 4 (refine aops_chunk 1 fun Q0 q0 => ?_; simp only [↓bO, go_sem, seval, pC]; refine q0 _ ?_; clear q0 Q0; simp only [go_sem])
    simp only [↓bO, go_sem, seval, pC]
    refine y1 _ ?_
    try clear y1 Y1
    refine AWp_cond (b := true) (by first | exact rfl | exact congrArg (fun b => AV.v (.bool b)) hb27) (fun _ => ?_) (fun h => (by cases h))
    refine AWp_seqK fun Y1 y1 => ?_
    refine AWp_region ?_
    iterate 2 (refine aops_chunk 1 fun Q0 q0 => ?_; simp only [↓bO, go_sem, seval, pC]; refine q0 _ ?_; clear q0 Q0; simp only [go_sem])
    simp only [↓bO, go_sem, seval, pC]
    refine y1 _ ?_
    try clear y1 Y1
    refine AWp_ret ?_
    try simp only [thenQ, blockQ, noGotoQ, retQ, aRes, tupOf, bS, bA, aLoad, getO, pack, bL, Nat.reduceAdd, Nat.reduceLeDiff, Nat.reduceEqDiff, ↓reduceIte, ti25, tyX, pC, List.length_map]
    rw [hP]
    first | exact tyZ_le | exact Le.refl _
   ·
    simp only [List.set_cons_zero, List.set_cons_succ]
    have he : (pwF (s.size + 1) s).2.1 = ByteArray.empty := eqS_iff.1 (eqS_nn hc22)
    refine aops_chunk 1 fun Q0 q0 => ?_
    simp only [↓bO, go_sem, seval, pC]
    refine q0 _ ?_
    clear q0 Q0
    simp only [go_sem]
    refine aops_chunk 1 fun Q0 q0 => ?_
    simp only [↓bO, go_sem, seval, pC]
    refine APure.call (PrintR_pure (pwF (s.size + 1) s).1 (by omega)) ?_
    try simp only [bS, bA, thenQ, blockQ, noGotoQ]
    iterate 2 (refine q0 _ ?_; clear q0 Q0; simp only [go_sem]; refine aops_chunk 1 fun Q0 q0 => ?_; simp only [↓bO, go_sem, seval, pC])
    refine q0 _ ?_
    clear q0 Q0
    simp only [go_sem]
    simp only [↓bO, go_sem, seval, pC]
    refine y1 _ ?_
    try clear y1 Y1
    refine AWp_cond rfl (fun hb27 => ?_) (fun hb27 => ?_)
    ·
     have hP : pwParse s = (.mk 0 0 [], 3) := by (first | exact hP | exact pwParse_no (s := s) (fun h => eqS_no (a := (pwF (s.size + 1) s).1.ptx) (b := s) (eqS_ne hb27) h.2.2))
     refine AWp_seqK fun Y1 y1 => ?_
     refine AWp_region ?_
     iterate 2 (refine aops_chunk 1 fun Q0 q0 => ?_; simp only [↓bO, go_sem, seval, pC]; refine q0 _ ?_; clear q0 Q0; simp only [go_sem])
     simp only [↓bO, go_sem, seval, pC]
     refine y1 _ ?_
     try clear y1 Y1
     refine AWp_ret ?_
     try simp only [thenQ, blockQ, noGotoQ, retQ, aRes, tupOf, bS, bA, aLoad, getO, pack, bL, Nat.reduceAdd, Nat.reduceLeDiff, Nat.reduceEqDiff, ↓reduceIte, ti25, tyX, pC, List.length_map]
     rw [hP]
     first | exact tyZ_le | exact Le.refl _
    ·
     have hp : (pwF (s.size + 1) s).1.ptx = s := eqS_iff.1 (eqS_nn hb27)
     have hP := pwParse_yes ⟨hg, he, hp⟩
     refine AWp_skip ?_
     try simp only [thenQ, blockQ, noGotoQ]
     refine y0 _ ?_
     try clear y0 Y0
     refine AWp_seqK fun Y0 y0 => ?_
     refine AWp_region ?_
     iterate 2 (refine aops_chunk 1 fun Q0 q0 => ?_; simp only [↓bO, go_sem, seval, pC]; refine q0 _ ?_; clear q0 Q0; simp only [go_sem])
     simp only [↓bO, go_sem, seval, pC]
     refine y0 _ ?_
     try clear y0 Y0
     refine AWp_ret ?_
     try simp only [thenQ, blockQ, noGotoQ, retQ, aRes, tupOf, bS, bA, aLoad, getO, pack, bL, Nat.reduceAdd, Nat.reduceLeDiff, Nat.reduceEqDiff, ↓reduceIte, ti25, tyX, pC, List.length_map]
     rw [hP]
     first | exact tyZ_le | exact Le.refl _
def opI (c op : Int) : Int := if c = 40 then op + 1 else if c = 41 then op - 1 else op
def cutB (s g : ByteArray) (all : Bool) (i : Nat) (op : Int) (out : List ByteArray) : Bool := decide (op = 0 ∧ i + g.size ≤ s.size) && (eqS (s.extract i (i + g.size)) g && (all || decide (out.length = 0)))
def spF (s g : ByteArray) (all : Bool) : Nat → Nat → Int → Nat → List ByteArray → List ByteArray
  | 0, _, _, a, out => out ++ [s.extract a s.size]
  | f + 1, i, op, a, out =>
    if i < s.size then
      if cutB s g all i (opI (bt s i) op) out then spF s g all f (i + g.size) (opI (bt s i) op) (i + g.size) (out ++ [s.extract a i])
      else spF s g all f (i + 1) (opI (bt s i) op) a out
    else out ++ [s.extract a s.size]
def spA (s g : ByteArray) (all : Bool) : List ByteArray := spF s g all (s.size + 1) 0 0 0 []
structure SpS where
  f : Nat
  i : Nat
  op : Int
  a : Nat
  out : List ByteArray
def SpS.ok (s g : ByteArray) (all : Bool) (w : SpS) : Prop := spF s g all w.f w.i w.op w.a w.out = spA s g all ∧ s.size - w.i < w.f ∧ w.i ≤ s.size ∧ w.a ≤ w.i ∧ w.out.length ≤ w.i ∧ -(w.i : Int) ≤ w.op ∧ w.op ≤ w.i
theorem SpS.start (s g : ByteArray) (all : Bool) : SpS.ok s g all ⟨s.size + 1, 0, 0, 0, []⟩ := ⟨rfl, by simp, by simp, by simp, by simp, by simp, by simp⟩
section
variable {s g : ByteArray} {all : Bool} {w : SpS}
theorem opI_bnd (c : Int) {op : Int} {n : Int} (h1 : -n ≤ op) (h2 : op ≤ n) : -(n + 1) ≤ opI c op ∧ opI c op ≤ n + 1 := by
  unfold opI; split
  · omega
  split <;> omega
theorem SpS.ok.stop (h : w.ok s g all) (hi : ¬ w.i < s.size) : spA s g all = w.out ++ [s.extract w.a s.size] := by
  obtain ⟨h1, h2, _⟩ := h
  obtain ⟨k, hk⟩ : ∃ k, w.f = k + 1 := ⟨w.f - 1, by omega⟩
  rw [hk, spF, if_neg hi] at h1
  exact h1.symm
theorem SpS.ok.cut (h : w.ok s g all) (hg : 1 ≤ g.size) (hi : w.i < s.size) (hc : cutB s g all w.i (opI (bt s w.i) w.op) w.out = true) : SpS.ok s g all ⟨w.f - 1, w.i + g.size, opI (bt s w.i) w.op, w.i + g.size, w.out ++ [s.extract w.a w.i]⟩ := by
  obtain ⟨h1, h2, h3, h4, h5, h6, h7⟩ := h
  obtain ⟨k, hk⟩ : ∃ k, w.f = k + 1 := ⟨w.f - 1, by omega⟩
  rw [hk, spF, if_pos hi, if_pos hc] at h1
  have h8 : w.i + g.size ≤ s.size := by
    unfold cutB at hc
    simp only [Bool.and_eq_true, decide_eq_true_eq] at hc
    exact hc.1.2
  have h9 := opI_bnd (bt s w.i) h6 h7
  exact ⟨by simp only [hk, Nat.add_sub_cancel]; exact h1, by simp only; omega, by simp only; omega, by simp only; omega, by simp only [List.length_append, List.length_cons, List.length_nil]; omega, by simp only; omega, by simp only; omega⟩
theorem SpS.ok.go (h : w.ok s g all) (hi : w.i < s.size) (hc : cutB s g all w.i (opI (bt s w.i) w.op) w.out = false) : SpS.ok s g all ⟨w.f - 1, w.i + 1, opI (bt s w.i) w.op, w.a, w.out⟩ := by
  obtain ⟨h1, h2, h3, h4, h5, h6, h7⟩ := h
  obtain ⟨k, hk⟩ : ∃ k, w.f = k + 1 := ⟨w.f - 1, by omega⟩
  rw [hk, spF, if_pos hi, if_neg (by simp [hc])] at h1
  have h9 := opI_bnd (bt s w.i) h6 h7
  exact ⟨by simp only [hk, Nat.add_sub_cancel]; exact h1, by simp only; omega, by simp only; omega, by simp only; omega, by simp only; omega, by simp only; omega, by simp only; omega⟩
end
theorem cut_no1 {s g : ByteArray} {all : Bool} {i : Nat} {op : Int} {out : List ByteArray} (h : ¬ op = 0) : cutB s g all i op out = false := by
  unfold cutB; rw [decide_eq_false fun h9 => h h9.1]; rfl
theorem cut_no2 {s g : ByteArray} {all : Bool} {i : Nat} {op : Int} {out : List ByteArray} (h : ¬ i + g.size ≤ s.size) : cutB s g all i op out = false := by
  unfold cutB; rw [decide_eq_false fun h9 => h h9.2]; rfl
theorem cut_no3 {s g : ByteArray} {all : Bool} {i : Nat} {op : Int} {out : List ByteArray} (h : eqS (s.extract i (i + g.size)) g = false) : cutB s g all i op out = false := by
  unfold cutB; rw [h]; simp
theorem cut_no4 {s g : ByteArray} {all : Bool} {i : Nat} {op : Int} {out : List ByteArray} (h : all = false) (h2 : ¬ out.length = 0) : cutB s g all i op out = false := by
  unfold cutB; rw [h, decide_eq_false h2]; simp
theorem cut_yes {s g : ByteArray} {all : Bool} {i : Nat} {op : Int} {out : List ByteArray} (h1 : op = 0) (h2 : i + g.size ≤ s.size) (h3 : eqS (s.extract i (i + g.size)) g = true) (h4 : all = true ∨ out.length = 0) : cutB s g all i op out = true := by
  unfold cutB; rw [decide_eq_true ⟨h1, h2⟩, h3]
  rcases h4 with h | h <;> simp [h]
theorem RSplit_pure (s g : ByteArray) (all : Bool) (hg : 1 ≤ g.size) (hgs : g.size ≤ 1048576) (hs : s.size ≤ 1048576) : APure Tryd.prog 31 [.v (.string s), .v (.string g), .v (.bool all)] (.sl 1 ((spA s g all).map strC)) := by
  refine APure.mkL (.cons (.v _) (.cons (.v _) (.cons (.v _) .nil))) ((dataStrs _)) ?_
  refine ACalls_intro Tryd.func31 (by kernel_rfl) rfl (by rw [Tryd.ntmps31]; simp) (fun hm => ?_)
  simp only [Tryd.ntmps31, Tryd.results31, List.length_cons, List.length_nil, Nat.reduceAdd, Nat.reduceSub, List.replicate_succ, List.replicate_zero, List.cons_append, List.nil_append]
  iterate 2 (refine AWp_seqK fun Y0 y0 => ?_; refine AWp_region ?_; simp only [↓bO, go_sem, seval]; refine y0 _ ?_; (try clear y0 Y0))
  refine AWp_seqK fun Y0 y0 => ?_
  refine AWp_region ?_
  refine aops_chunk 1 fun Q0 q0 => ?_
  simp only [↓bO, go_sem, seval]
  refine q0 _ ?_
  clear q0 Q0
  simp only [go_sem]
  simp only [↓bO, go_sem, seval]
  refine y0 _ ?_
  try clear y0 Y0
  refine AWp_seqK fun Y0 y0 => ?_
  refine AWp_seqK fun Y1 y1 => ?_
  refine AWp_region ?_
  simp only [↓bO, go_sem, seval]
  refine y1 _ ?_
  try clear y1 Y1
  refine AWp_block ?_
  refine AWp_weak (Weak.tokSlot 7 9 1 rfl) ?_
  simp only [List.set_cons_zero, List.set_cons_succ]
  refine AWp_loopM (σ := SpS) (mB 78 1927) (fun w => w.ok s g all) (fun w => [(7, .osl 0 1 (w.out.map strC)), (8, .v (.int .i64 w.op)), (9, .v (.int .i64 (w.a : Int))), (10, .v (.int .i64 (w.i : Int)))]) (fun w => [(0, .tok 9 1 w.out.length)]) (fun w => s.size + 1 - w.i) ⟨s.size + 1, 0, 0, 0, []⟩ (SpS.start s g all) ?_ (fun w hw => ?_)
  ·
   try simp only [maskL, setsL, putsO, putO, mB, List.set_cons_zero, List.set_cons_succ, seval, bL, Int.natCast_zero]
   exact Weak.mk (by simp only [go_sem, Le.refl, Le.any, Le.slNil, Int.natCast_add, Int.cast_ofNat_Int, Int.natCast_one]) (fun _ _ h => h) rfl rfl
  simp only [maskL, setsL, putsO, putO, mB, List.set_cons_zero, List.set_cons_succ, seval]
  have hwi := hw.2.2
  have hcc : ((((s[w.i]?).getD 0).toNat : Nat) : Int) = bt s w.i := rfl
  have hw1 : IntKind.i64.wrap ((w.i : Int) + 1) = ((w.i + 1 : Nat) : Int) := by (rw [wrap_in (by omega) (by omega)]; omega)
  have hw2 : IntKind.i64.wrap ((w.i : Int) + (g.size : Int)) = ((w.i + g.size : Nat) : Int) := by (rw [wrap_in (by omega) (by omega)]; omega)
  have hw3 : IntKind.i64.wrap (((w.i + g.size : Nat) : Int) - 1) = ((w.i + g.size : Nat) : Int) - 1 := by (rw [wrap_in (by omega) (by omega)])
  have hw4 : IntKind.i64.wrap (((w.i + g.size : Nat) : Int) - 1 + 1) = ((w.i + g.size : Nat) : Int) := by (rw [wrap_in (by omega) (by omega)]; omega)
  have hw5 : IntKind.i64.wrap (w.op + 1) = w.op + 1 := by (rw [wrap_in (by omega) (by omega)])
  have hw6 : IntKind.i64.wrap ((if bt s w.i = 40 then w.op + 1 else w.op) - 1) = (if bt s w.i = 40 then w.op + 1 else w.op) - 1 := by (split <;> exact wrap_in (by omega) (by omega))
  have hb1 : (w.out.length + 1) * 16 ≤ 140737488355328 := by omega
  have hb2 : w.out.length + 1 ≤ maxLen := by (simp only [maxLen]; omega)
  have hai : ((w.a : Int) ≤ (w.i : Int)) = True := eq_true (by omega)
  have his : ((w.i : Int) ≤ (s.size : Int)) = True := eq_true (by omega)
  have hiu : ((w.i : Int) ≤ ((w.i + g.size : Nat) : Int)) = True := eq_true (by omega)
  refine AWp_seqK fun Y1 y1 => ?_
  refine AWp_seqK fun Y2 y2 => ?_
  refine AWp_region ?_
  iterate 3 (refine aops_chunk 1 fun Q0 q0 => ?_; simp only [↓bO, go_sem, seval, strC, hcc, hw1, hw2, hw3, hw4, hw5, hw6, hb1, hb2, hai, his, hiu, List.map_append, List.length_append]; refine q0 _ ?_; clear q0 Q0; simp only [go_sem])
  simp only [↓bO, go_sem, seval, strC, hcc, hw1, hw2, hw3, hw4, hw5, hw6, hb1, hb2, hai, his, hiu, List.map_append, List.length_append]
  refine y2 _ ?_
  try clear y2 Y2
  refine AWp_cond rfl (fun hb14 => ?_) (fun hb14 => ?_)
  ·
   have hi : w.i < s.size := by simpa using hb14
   refine AWp_skip ?_
   try simp only [thenQ, blockQ, noGotoQ]
   refine y1 _ ?_
   try clear y1 Y1
   refine AWp_seqK fun Y1 y1 => ?_
   refine AWp_block ?_
   refine AWp_joinM (mB 78 1927) ([(8, .v (.int .i64 (if bt s w.i = 40 then w.op + 1 else w.op)))]) ([]) ?_ ?_
   ·
    refine AWp_seqK fun Y2 y2 => ?_
    refine AWp_region ?_
    iterate 3 (refine aops_chunk 1 fun Q0 q0 => ?_; simp only [↓bO, go_sem, seval, strC, hcc, hw1, hw2, hw3, hw4, hw5, hw6, hb1, hb2, hai, his, hiu, List.map_append, List.length_append, hi]; refine q0 _ ?_; clear q0 Q0; simp only [go_sem])
    simp only [↓bO, go_sem, seval, strC, hcc, hw1, hw2, hw3, hw4, hw5, hw6, hb1, hb2, hai, his, hiu, List.map_append, List.length_append, hi]
    refine y2 _ ?_
    try clear y2 Y2
    refine AWp_cond rfl (fun hb20 => ?_) (fun hb20 => ?_)
    ·
     refine AWp_region ?_
     iterate 2 (refine aops_chunk 1 fun Q0 q0 => ?_; simp only [↓bO, go_sem, seval, strC, hcc, hw1, hw2, hw3, hw4, hw5, hw6, hb1, hb2, hai, his, hiu, List.map_append, List.length_append, hi]; refine q0 _ ?_; clear q0 Q0; simp only [go_sem])
     simp only [↓bO, go_sem, seval, strC, hcc, hw1, hw2, hw3, hw4, hw5, hw6, hb1, hb2, hai, his, hiu, List.map_append, List.length_append, hi]
     try simp only [maskL, setsL, putsO, putO, mB, List.set_cons_zero, List.set_cons_succ, seval]
     first | rw [if_pos (by simpa using hb20)] | rw [if_neg (by simpa using hb20)]
     exact Weak.mk (by simp only [go_sem, Le.refl, Le.any, LeL, and_self]) (fun _ _ h => h) rfl rfl
    ·
     refine AWp_skip ?_
     try simp only [thenQ, blockQ, noGotoQ]
     try simp only [maskL, setsL, putsO, putO, mB, List.set_cons_zero, List.set_cons_succ, seval]
     first | rw [if_pos (by simpa using hb20)] | rw [if_neg (by simpa using hb20)]
     exact Weak.mk (by simp only [go_sem, Le.refl, Le.any, LeL, and_self]) (fun _ _ h => h) rfl rfl
   simp only [maskL, setsL, putsO, putO, mB, List.set_cons_zero, List.set_cons_succ, seval]
   refine AWp_joinM (mB 78 1927) ([(8, .v (.int .i64 (opI (bt s w.i) w.op)))]) ([]) ?_ ?_
   ·
    refine AWp_seqK fun Y2 y2 => ?_
    refine AWp_region ?_
    iterate 3 (refine aops_chunk 1 fun Q0 q0 => ?_; simp only [↓bO, go_sem, seval, strC, hcc, hw1, hw2, hw3, hw4, hw5, hw6, hb1, hb2, hai, his, hiu, List.map_append, List.length_append, hi]; refine q0 _ ?_; clear q0 Q0; simp only [go_sem])
    simp only [↓bO, go_sem, seval, strC, hcc, hw1, hw2, hw3, hw4, hw5, hw6, hb1, hb2, hai, his, hiu, List.map_append, List.length_append, hi]
    refine y2 _ ?_
    try clear y2 Y2
    refine AWp_cond rfl (fun hb26 => ?_) (fun hb26 => ?_)
    ·
     refine AWp_region ?_
     iterate 2 (refine aops_chunk 1 fun Q0 q0 => ?_; simp only [↓bO, go_sem, seval, strC, hcc, hw1, hw2, hw3, hw4, hw5, hw6, hb1, hb2, hai, his, hiu, List.map_append, List.length_append, hi]; refine q0 _ ?_; clear q0 Q0; simp only [go_sem])
     simp only [↓bO, go_sem, seval, strC, hcc, hw1, hw2, hw3, hw4, hw5, hw6, hb1, hb2, hai, his, hiu, List.map_append, List.length_append, hi]
     try simp only [maskL, setsL, putsO, putO, mB, List.set_cons_zero, List.set_cons_succ, seval]
     have hop : (opI (bt s w.i) w.op) = if bt s w.i = 41 then (if bt s w.i = 40 then w.op + 1 else w.op) - 1 else (if bt s w.i = 40 then w.op + 1 else w.op) := by (unfold opI; split <;> split <;> omega)
     rw [hop]
     first | rw [if_pos (show bt s w.i = 41 by simpa using hb26)] | rw [if_neg (show ¬ bt s w.i = 41 by simpa using hb26)]
     exact Weak.mk (by simp only [go_sem, Le.refl, Le.any, LeL, and_self]) (fun _ _ h => h) rfl rfl
    ·
     refine AWp_skip ?_
     try simp only [thenQ, blockQ, noGotoQ]
     try simp only [maskL, setsL, putsO, putO, mB, List.set_cons_zero, List.set_cons_succ, seval]
     have hop : (opI (bt s w.i) w.op) = if bt s w.i = 41 then (if bt s w.i = 40 then w.op + 1 else w.op) - 1 else (if bt s w.i = 40 then w.op + 1 else w.op) := by (unfold opI; split <;> split <;> omega)
     rw [hop]
     first | rw [if_pos (show bt s w.i = 41 by simpa using hb26)] | rw [if_neg (show ¬ bt s w.i = 41 by simpa using hb26)]
     exact Weak.mk (by simp only [go_sem, Le.refl, Le.any, LeL, and_self]) (fun _ _ h => h) rfl rfl
   simp only [maskL, setsL, putsO, putO, mB, List.set_cons_zero, List.set_cons_succ, seval]
   refine AWp_seqK fun Y2 y2 => ?_
   refine AWp_region ?_
   iterate 3 (refine aops_chunk 1 fun Q0 q0 => ?_; simp only [↓bO, go_sem, seval, strC, hcc, hw1, hw2, hw3, hw4, hw5, hw6, hb1, hb2, hai, his, hiu, List.map_append, List.length_append, hi]; refine q0 _ ?_; clear q0 Q0; simp only [go_sem])
   refine aops_case 31 rfl (fun hc31 => ?_) (fun hc31 => ?_)
   ·
    simp only [List.set_cons_zero, List.set_cons_succ]
    have h0 : (opI (bt s w.i) w.op) = 0 := by (have h9 := hc31; simp at h9; exact h9)
    iterate 9 (refine aops_chunk 1 fun Q0 q0 => ?_; simp only [↓bO, go_sem, seval, strC, hcc, hw1, hw2, hw3, hw4, hw5, hw6, hb1, hb2, hai, his, hiu, List.map_append, List.length_append, hi]; refine q0 _ ?_; clear q0 Q0; simp only [go_sem])
    refine aops_case 40 rfl (fun hc40 => ?_) (fun hc40 => ?_)
    ·
     simp only [List.set_cons_zero, List.set_cons_succ]
     have hle : w.i + g.size ≤ s.size := by (have h9 := hc40; simp at h9; omega)
     have hle2 : (((w.i + g.size : Nat) : Int) ≤ (s.size : Int)) = True := eq_true (by omega)
     iterate 11 (refine aops_chunk 1 fun Q0 q0 => ?_; simp only [↓bO, go_sem, seval, strC, hcc, hw1, hw2, hw3, hw4, hw5, hw6, hb1, hb2, hai, his, hiu, List.map_append, List.length_append, hi, hle2]; refine q0 _ ?_; clear q0 Q0; simp only [go_sem])
     refine aops_case 51 rfl (fun hc51 => ?_) (fun hc51 => ?_)
     ·
      simp only [List.set_cons_zero, List.set_cons_succ]
      have hq : eqS (s.extract w.i (w.i + g.size)) g = true := hc51
      iterate 2 (refine aops_chunk 1 fun Q0 q0 => ?_; simp only [↓bO, go_sem, seval, strC, hcc, hw1, hw2, hw3, hw4, hw5, hw6, hb1, hb2, hai, his, hiu, List.map_append, List.length_append, hi, hle2]; refine q0 _ ?_; clear q0 Q0; simp only [go_sem])
      refine aops_case 53 rfl (fun hc53 => ?_) (fun hc53 => ?_)
      ·
       simp only [List.set_cons_zero, List.set_cons_succ]
       have hct : (cutB s g all w.i (opI (bt s w.i) w.op) w.out) = true := cut_yes h0 hle hq (.inl hc53)
       iterate 4 (refine aops_chunk 1 fun Q0 q0 => ?_; simp only [↓bO, go_sem, seval, strC, hcc, hw1, hw2, hw3, hw4, hw5, hw6, hb1, hb2, hai, his, hiu, List.map_append, List.length_append, hi, hle2]; refine q0 _ ?_; clear q0 Q0; simp only [go_sem])
       simp only [↓bO, go_sem, seval, strC, hcc, hw1, hw2, hw3, hw4, hw5, hw6, hb1, hb2, hai, his, hiu, List.map_append, List.length_append, hi, hle2]
       refine y2 _ ?_
       try clear y2 Y2
       refine AWp_cond (b := true) (by first | exact rfl | exact congrArg (fun b => AV.v (.bool b)) hb58) (fun _ => ?_) (fun h => (by cases h))
       refine AWp_seqK fun Y2 y2 => ?_
       refine AWp_region ?_
       iterate 5 (refine aops_chunk 1 fun Q0 q0 => ?_; simp only [↓bO, go_sem, seval, strC, hcc, hw1, hw2, hw3, hw4, hw5, hw6, hb1, hb2, hai, his, hiu, List.map_append, List.length_append, hi, hle2]; refine q0 _ ?_; clear q0 Q0; simp only [go_sem])
       refine aops_chunk 1 fun Q0 q0 => ?_
       simp only [↓bO, go_sem, seval, ↓bs1_1, ↓bs1_2, ↓bs1_3, ↓bs1_4, ↓bs1_5, ↓bs1_6, ↓bs1_7, ↓bs1_8, ↓bs1_9, ↓bs1_10, ↓bs1_11, ↓bs1_12, strC, hcc, hw1, hw2, hw3, hw4, hw5, hw6, hb1, hb2, hai, his, hiu, List.map_append, List.length_append, hi, hle2]
       refine q0 _ ?_
       clear q0 Q0
       simp only [go_sem]
       refine aops_chunk 1 fun Q0 q0 => ?_
       simp only [↓bO, go_sem, seval, strC, hcc, hw1, hw2, hw3, hw4, hw5, hw6, hb1, hb2, hai, his, hiu, List.map_append, List.length_append, hi, hle2]
       refine q0 _ ?_
       clear q0 Q0
       simp only [go_sem]
       simp only [↓bO, go_sem, seval, strC, hcc, hw1, hw2, hw3, hw4, hw5, hw6, hb1, hb2, hai, his, hiu, List.map_append, List.length_append, hi, hle2]
       refine y2 _ ?_
       try clear y2 Y2
       refine AWp_seqK fun Y2 y2 => ?_
       refine AWp_region ?_
       iterate 4 (refine aops_chunk 1 fun Q0 q0 => ?_; simp only [↓bO, go_sem, seval, strC, hcc, hw1, hw2, hw3, hw4, hw5, hw6, hb1, hb2, hai, his, hiu, List.map_append, List.length_append, hi, hle2]; refine q0 _ ?_; clear q0 Q0; simp only [go_sem])
       simp only [↓bO, go_sem, seval, strC, hcc, hw1, hw2, hw3, hw4, hw5, hw6, hb1, hb2, hai, his, hiu, List.map_append, List.length_append, hi, hle2]
       refine y2 _ ?_
       try clear y2 Y2
       refine AWp_region ?_
       iterate 2 (refine aops_chunk 1 fun Q0 q0 => ?_; simp only [↓bO, go_sem, seval, strC, hcc, hw1, hw2, hw3, hw4, hw5, hw6, hb1, hb2, hai, his, hiu, List.map_append, List.length_append, hi, hle2]; refine q0 _ ?_; clear q0 Q0; simp only [go_sem])
       simp only [↓bO, go_sem, seval, strC, hcc, hw1, hw2, hw3, hw4, hw5, hw6, hb1, hb2, hai, his, hiu, List.map_append, List.length_append, hi, hle2]
       refine y1 _ ?_
       try clear y1 Y1
       refine AWp_region ?_
       iterate 2 (refine aops_chunk 1 fun Q0 q0 => ?_; simp only [↓bO, go_sem, seval, strC, hcc, hw1, hw2, hw3, hw4, hw5, hw6, hb1, hb2, hai, his, hiu, List.map_append, List.length_append, hi, hle2]; refine q0 _ ?_; clear q0 Q0; simp only [go_sem])
       simp only [↓bO, go_sem, seval, strC, hcc, hw1, hw2, hw3, hw4, hw5, hw6, hb1, hb2, hai, his, hiu, List.map_append, List.length_append, hi, hle2]
       refine ⟨⟨w.f - 1, w.i + g.size, (opI (bt s w.i) w.op), w.i + g.size, w.out ++ [s.extract w.a w.i]⟩, hw.cut hg hi hct, (by simp only; omega), ?_⟩
       try simp only [maskL, setsL, putsO, putO, mB, List.set_cons_zero, List.set_cons_succ, seval, strC, hcc, hw1, hw2, hw3, hw4, hw5, hw6, hb1, hb2, hai, his, hiu, List.map_append, bL, List.length_append, hi, hle2]
       exact Weak.mk (by simp only [go_sem, Le.refl, Le.any, Le.slNil, Int.natCast_add, Int.cast_ofNat_Int, Int.natCast_one]) (fun _ _ h => h) rfl rfl
      ·
       simp only [List.set_cons_zero, List.set_cons_succ]
       have hal : all = false := hc53
       iterate 4 (refine aops_chunk 1 fun Q0 q0 => ?_; simp only [↓bO, go_sem, seval, strC, hcc, hw1, hw2, hw3, hw4, hw5, hw6, hb1, hb2, hai, his, hiu, List.map_append, List.length_append, hi, hle2]; refine q0 _ ?_; clear q0 Q0; simp only [go_sem])
       simp only [↓bO, go_sem, seval, strC, hcc, hw1, hw2, hw3, hw4, hw5, hw6, hb1, hb2, hai, his, hiu, List.map_append, List.length_append, hi, hle2]
       refine y2 _ ?_
       try clear y2 Y2
       refine AWp_cond rfl (fun hb58 => ?_) (fun hb58 => ?_)
       ·
        have hct : (cutB s g all w.i (opI (bt s w.i) w.op) w.out) = true := by (first | exact hct | exact cut_yes h0 hle hq (.inr (by have h9 := hb58; simp at h9; simpa using h9)))
        refine AWp_seqK fun Y2 y2 => ?_
        refine AWp_region ?_
        iterate 5 (refine aops_chunk 1 fun Q0 q0 => ?_; simp only [↓bO, go_sem, seval, strC, hcc, hw1, hw2, hw3, hw4, hw5, hw6, hb1, hb2, hai, his, hiu, List.map_append, List.length_append, hi, hle2]; refine q0 _ ?_; clear q0 Q0; simp only [go_sem])
        refine aops_chunk 1 fun Q0 q0 => ?_
        simp only [↓bO, go_sem, seval, ↓bs1_1, ↓bs1_2, ↓bs1_3, ↓bs1_4, ↓bs1_5, ↓bs1_6, ↓bs1_7, ↓bs1_8, ↓bs1_9, ↓bs1_10, ↓bs1_11, ↓bs1_12, strC, hcc, hw1, hw2, hw3, hw4, hw5, hw6, hb1, hb2, hai, his, hiu, List.map_append, List.length_append, hi, hle2]
        refine q0 _ ?_
        clear q0 Q0
        simp only [go_sem]
        refine aops_chunk 1 fun Q0 q0 => ?_
        simp only [↓bO, go_sem, seval, strC, hcc, hw1, hw2, hw3, hw4, hw5, hw6, hb1, hb2, hai, his, hiu, List.map_append, List.length_append, hi, hle2]
        refine q0 _ ?_
        clear q0 Q0
        simp only [go_sem]
        simp only [↓bO, go_sem, seval, strC, hcc, hw1, hw2, hw3, hw4, hw5, hw6, hb1, hb2, hai, his, hiu, List.map_append, List.length_append, hi, hle2]
        refine y2 _ ?_
        try clear y2 Y2
        refine AWp_seqK fun Y2 y2 => ?_
        refine AWp_region ?_
        iterate 4 (refine aops_chunk 1 fun Q0 q0 => ?_; simp only [↓bO, go_sem, seval, strC, hcc, hw1, hw2, hw3, hw4, hw5, hw6, hb1, hb2, hai, his, hiu, List.map_append, List.length_append, hi, hle2]; refine q0 _ ?_; clear q0 Q0; simp only [go_sem])
        simp only [↓bO, go_sem, seval, strC, hcc, hw1, hw2, hw3, hw4, hw5, hw6, hb1, hb2, hai, his, hiu, List.map_append, List.length_append, hi, hle2]
        refine y2 _ ?_
        try clear y2 Y2
        refine AWp_region ?_
        iterate 2 (refine aops_chunk 1 fun Q0 q0 => ?_; simp only [↓bO, go_sem, seval, strC, hcc, hw1, hw2, hw3, hw4, hw5, hw6, hb1, hb2, hai, his, hiu, List.map_append, List.length_append, hi, hle2]; refine q0 _ ?_; clear q0 Q0; simp only [go_sem])
        simp only [↓bO, go_sem, seval, strC, hcc, hw1, hw2, hw3, hw4, hw5, hw6, hb1, hb2, hai, his, hiu, List.map_append, List.length_append, hi, hle2]
        refine y1 _ ?_
        try clear y1 Y1
        refine AWp_region ?_
        iterate 2 (refine aops_chunk 1 fun Q0 q0 => ?_; simp only [↓bO, go_sem, seval, strC, hcc, hw1, hw2, hw3, hw4, hw5, hw6, hb1, hb2, hai, his, hiu, List.map_append, List.length_append, hi, hle2]; refine q0 _ ?_; clear q0 Q0; simp only [go_sem])
        simp only [↓bO, go_sem, seval, strC, hcc, hw1, hw2, hw3, hw4, hw5, hw6, hb1, hb2, hai, his, hiu, List.map_append, List.length_append, hi, hle2]
        refine ⟨⟨w.f - 1, w.i + g.size, (opI (bt s w.i) w.op), w.i + g.size, w.out ++ [s.extract w.a w.i]⟩, hw.cut hg hi hct, (by simp only; omega), ?_⟩
        try simp only [maskL, setsL, putsO, putO, mB, List.set_cons_zero, List.set_cons_succ, seval, strC, hcc, hw1, hw2, hw3, hw4, hw5, hw6, hb1, hb2, hai, his, hiu, List.map_append, bL, List.length_append, hi, hle2]
        exact Weak.mk (by simp only [go_sem, Le.refl, Le.any, Le.slNil, Int.natCast_add, Int.cast_ofNat_Int, Int.natCast_one]) (fun _ _ h => h) rfl rfl
       ·
        have hct : (cutB s g all w.i (opI (bt s w.i) w.op) w.out) = false := by (first | exact hct | exact cut_no4 hal (by have h9 := hb58; simp at h9; simpa using h9))
        refine AWp_skip ?_
        try simp only [thenQ, blockQ, noGotoQ]
        refine y1 _ ?_
        try clear y1 Y1
        refine AWp_region ?_
        iterate 2 (refine aops_chunk 1 fun Q0 q0 => ?_; simp only [↓bO, go_sem, seval, strC, hcc, hw1, hw2, hw3, hw4, hw5, hw6, hb1, hb2, hai, his, hiu, List.map_append, List.length_append, hi, hle2]; refine q0 _ ?_; clear q0 Q0; simp only [go_sem])
        simp only [↓bO, go_sem, seval, strC, hcc, hw1, hw2, hw3, hw4, hw5, hw6, hb1, hb2, hai, his, hiu, List.map_append, List.length_append, hi, hle2]
        refine ⟨⟨w.f - 1, w.i + 1, (opI (bt s w.i) w.op), w.a, w.out⟩, hw.go hi hct, (by simp only; omega), ?_⟩
        try simp only [maskL, setsL, putsO, putO, mB, List.set_cons_zero, List.set_cons_succ, seval, strC, hcc, hw1, hw2, hw3, hw4, hw5, hw6, hb1, hb2, hai, his, hiu, List.map_append, bL, List.length_append, hi, hle2]
        exact Weak.mk (by simp only [go_sem, Le.refl, Le.any, Le.slNil, Int.natCast_add, Int.cast_ofNat_Int, Int.natCast_one]) (fun _ _ h => h) rfl rfl
     ·
      simp only [List.set_cons_zero, List.set_cons_succ]
      have hct : (cutB s g all w.i (opI (bt s w.i) w.op) w.out) = false := cut_no3 hc51
      iterate 6 (refine aops_chunk 1 fun Q0 q0 => ?_; simp only [↓bO, go_sem, seval, strC, hcc, hw1, hw2, hw3, hw4, hw5, hw6, hb1, hb2, hai, his, hiu, List.map_append, List.length_append, hi, hle2]; refine q0 _ ?_; clear q0 Q0; simp only [go_sem])
      simp only [↓bO, go_sem, seval, strC, hcc, hw1, hw2, hw3, hw4, hw5, hw6, hb1, hb2, hai, his, hiu, List.map_append, List.length_append, hi, hle2]
      refine y2 _ ?_
      try clear y2 Y2
      refine AWp_cond (b := false) (by first | exact rfl | exact congrArg (fun b => AV.v (.bool b)) hb58) (fun h => (by cases h)) (fun _ => ?_)
      refine AWp_skip ?_
      try simp only [thenQ, blockQ, noGotoQ]
      refine y1 _ ?_
      try clear y1 Y1
      refine AWp_region ?_
      iterate 2 (refine aops_chunk 1 fun Q0 q0 => ?_; simp only [↓bO, go_sem, seval, strC, hcc, hw1, hw2, hw3, hw4, hw5, hw6, hb1, hb2, hai, his, hiu, List.map_append, List.length_append, hi, hle2]; refine q0 _ ?_; clear q0 Q0; simp only [go_sem])
      simp only [↓bO, go_sem, seval, strC, hcc, hw1, hw2, hw3, hw4, hw5, hw6, hb1, hb2, hai, his, hiu, List.map_append, List.length_append, hi, hle2]
      refine ⟨⟨w.f - 1, w.i + 1, (opI (bt s w.i) w.op), w.a, w.out⟩, hw.go hi hct, (by simp only; omega), ?_⟩
      try simp only [maskL, setsL, putsO, putO, mB, List.set_cons_zero, List.set_cons_succ, seval, strC, hcc, hw1, hw2, hw3, hw4, hw5, hw6, hb1, hb2, hai, his, hiu, List.map_append, bL, List.length_append, hi, hle2]
      exact Weak.mk (by simp only [go_sem, Le.refl, Le.any, Le.slNil, Int.natCast_add, Int.cast_ofNat_Int, Int.natCast_one]) (fun _ _ h => h) rfl rfl
    ·
     simp only [List.set_cons_zero, List.set_cons_succ]
     have hct : (cutB s g all w.i (opI (bt s w.i) w.op) w.out) = false := cut_no2 (by (have h9 := hc40; simp at h9; omega))
     iterate 17 (refine aops_chunk 1 fun Q0 q0 => ?_; simp only [↓bO, go_sem, seval, strC, hcc, hw1, hw2, hw3, hw4, hw5, hw6, hb1, hb2, hai, his, hiu, List.map_append, List.length_append, hi]; refine q0 _ ?_; clear q0 Q0; simp only [go_sem])
     simp only [↓bO, go_sem, seval, strC, hcc, hw1, hw2, hw3, hw4, hw5, hw6, hb1, hb2, hai, his, hiu, List.map_append, List.length_append, hi]
     refine y2 _ ?_
     try clear y2 Y2
     refine AWp_cond (b := false) (by first | exact rfl | exact congrArg (fun b => AV.v (.bool b)) hb58) (fun h => (by cases h)) (fun _ => ?_)
     refine AWp_skip ?_
     try simp only [thenQ, blockQ, noGotoQ]
     refine y1 _ ?_
     try clear y1 Y1
     refine AWp_region ?_
     iterate 2 (refine aops_chunk 1 fun Q0 q0 => ?_; simp only [↓bO, go_sem, seval, strC, hcc, hw1, hw2, hw3, hw4, hw5, hw6, hb1, hb2, hai, his, hiu, List.map_append, List.length_append, hi]; refine q0 _ ?_; clear q0 Q0; simp only [go_sem])
     simp only [↓bO, go_sem, seval, strC, hcc, hw1, hw2, hw3, hw4, hw5, hw6, hb1, hb2, hai, his, hiu, List.map_append, List.length_append, hi]
     refine ⟨⟨w.f - 1, w.i + 1, (opI (bt s w.i) w.op), w.a, w.out⟩, hw.go hi hct, (by simp only; omega), ?_⟩
     try simp only [maskL, setsL, putsO, putO, mB, List.set_cons_zero, List.set_cons_succ, seval, strC, hcc, hw1, hw2, hw3, hw4, hw5, hw6, hb1, hb2, hai, his, hiu, List.map_append, bL, List.length_append, hi]
     exact Weak.mk (by simp only [go_sem, Le.refl, Le.any, Le.slNil, Int.natCast_add, Int.cast_ofNat_Int, Int.natCast_one]) (fun _ _ h => h) rfl rfl
   ·
    simp only [List.set_cons_zero, List.set_cons_succ]
    have hct : (cutB s g all w.i (opI (bt s w.i) w.op) w.out) = false := cut_no1 (by (have h9 := hc31; simp at h9; exact h9))
    iterate 26 (refine aops_chunk 1 fun Q0 q0 => ?_; simp only [↓bO, go_sem, seval, strC, hcc, hw1, hw2, hw3, hw4, hw5, hw6, hb1, hb2, hai, his, hiu, List.map_append, List.length_append, hi]; refine q0 _ ?_; clear q0 Q0; simp only [go_sem])
    simp only [↓bO, go_sem, seval, strC, hcc, hw1, hw2, hw3, hw4, hw5, hw6, hb1, hb2, hai, his, hiu, List.map_append, List.length_append, hi]
    refine y2 _ ?_
    try clear y2 Y2
    refine AWp_cond (b := false) (by first | exact rfl | exact congrArg (fun b => AV.v (.bool b)) hb58) (fun h => (by cases h)) (fun _ => ?_)
    refine AWp_skip ?_
    try simp only [thenQ, blockQ, noGotoQ]
    refine y1 _ ?_
    try clear y1 Y1
    refine AWp_region ?_
    iterate 2 (refine aops_chunk 1 fun Q0 q0 => ?_; simp only [↓bO, go_sem, seval, strC, hcc, hw1, hw2, hw3, hw4, hw5, hw6, hb1, hb2, hai, his, hiu, List.map_append, List.length_append, hi]; refine q0 _ ?_; clear q0 Q0; simp only [go_sem])
    simp only [↓bO, go_sem, seval, strC, hcc, hw1, hw2, hw3, hw4, hw5, hw6, hb1, hb2, hai, his, hiu, List.map_append, List.length_append, hi]
    refine ⟨⟨w.f - 1, w.i + 1, (opI (bt s w.i) w.op), w.a, w.out⟩, hw.go hi hct, (by simp only; omega), ?_⟩
    try simp only [maskL, setsL, putsO, putO, mB, List.set_cons_zero, List.set_cons_succ, seval, strC, hcc, hw1, hw2, hw3, hw4, hw5, hw6, hb1, hb2, hai, his, hiu, List.map_append, bL, List.length_append, hi]
    exact Weak.mk (by simp only [go_sem, Le.refl, Le.any, Le.slNil, Int.natCast_add, Int.cast_ofNat_Int, Int.natCast_one]) (fun _ _ h => h) rfl rfl
  ·
   have hi : ¬ w.i < s.size := by simpa using hb14
   refine AWp_exit ?_
   simp only [thenQ, blockQ, noGotoQ, bA, Nat.reduceEqDiff, ↓reduceIte]
   refine y0 _ ?_
   try clear y0 Y0
   have has : ((w.a : Int) ≤ (s.size : Int)) = True := eq_true (by have := hw.2.2; omega)
   have hb3 : (w.out.length + 1) * 16 ≤ 140737488355328 := by (have := hw.2.2; omega)
   have hb4 : w.out.length + 1 ≤ maxLen := by (have := hw.2.2; simp only [maxLen]; omega)
   refine AWp_seqK fun Y0 y0 => ?_
   refine AWp_region ?_
   iterate 4 (refine aops_chunk 1 fun Q0 q0 => ?_; simp only [↓bO, go_sem, seval, has, hb3, hb4]; refine q0 _ ?_; clear q0 Q0; simp only [go_sem])
   refine aops_chunk 1 fun Q0 q0 => ?_
   simp only [↓bO, go_sem, seval, ↓bs1_1, ↓bs1_2, ↓bs1_3, ↓bs1_4, ↓bs1_5, ↓bs1_6, ↓bs1_7, ↓bs1_8, ↓bs1_9, ↓bs1_10, ↓bs1_11, ↓bs1_12, has, hb3, hb4]
   refine q0 _ ?_
   clear q0 Q0
   simp only [go_sem]
   refine aops_chunk 1 fun Q0 q0 => ?_
   simp only [↓bO, go_sem, seval, has, hb3, hb4]
   refine q0 _ ?_
   clear q0 Q0
   simp only [go_sem]
   simp only [↓bO, go_sem, seval, has, hb3, hb4]
   refine y0 _ ?_
   try clear y0 Y0
   refine AWp_ret ?_
   try simp only [thenQ, blockQ, noGotoQ, retQ, aRes, tupOf, bS, bA]
   rw [hw.stop hi]
   simp only [List.map_append, List.map_cons, List.map_nil]
   exact Le.oslL
end Go.Proofs.YtkokfdmggdhfmaaDoor
namespace Go.Proofs.YtkokfdmggdhfmaaDoor
open Go Go.RowKit
set_option linter.unusedSimpArgs false
set_option linter.unnecessarySimpa false
set_option linter.unusedVariables false
def trAll (W : ByteArray → Ty × Bool) : List ByteArray → List Ty → Ty × Bool
  | [], acc => (.mk 5 0 acc, true)
  | x :: l, acc => if (W x).2 = true then trAll W l (acc ++ [(W x).1]) else (.mk 0 0 [], false)
def trBr (W : ByteArray → Ty × Bool) (s : ByteArray) : Ty × Bool :=
  if s.size < 2 ∨ ¬ bt s 0 = 40 ∨ ¬ bt s (s.size - 1) = 41 then (.mk 0 0 [], false)
  else match spA (s.extract 1 (s.size - 1)) bSt true with
    | [a] => W a
    | l => trAll W l []
def trStep (W : ByteArray → Ty × Bool) (s : ByteArray) : Ty × Bool :=
  if s = bInt then (.mk 2 0 [], true) else if s = bBool then (.mk 3 0 [], true)
  else if 0 ≤ nuR s then (.mk 1 (nuR s) [], true)
  else match spA s bAr false with
    | [a, b] => (.mk 4 0 [(W a).1, (W b).1], (W a).2 && (W b).2)
    | _ => trBr W s
def trF : Nat → ByteArray → Ty × Bool
  | 0, _ => (.mk 0 0 [], false)
  | f + 1, s => trStep (trF f) s
def pcs (g : ByteArray) : List ByteArray → Nat
  | [] => 0
  | x :: l => x.size + g.size + pcs g l
theorem pcs_app (g : ByteArray) (l m : List ByteArray) : pcs g (l ++ m) = pcs g l + pcs g m := by
  induction l with
  | nil => simp [pcs]
  | cons x l ih => simp only [List.cons_append, pcs, ih]; omega
theorem pcs_mem {g x : ByteArray} {l : List ByteArray} (h : x ∈ l) : x.size + g.size ≤ pcs g l := by
  induction l with
  | nil => cases h
  | cons y l ih =>
    simp only [pcs]
    rcases List.mem_cons.1 h with rfl | h
    · omega
    · have := ih h; omega
theorem spF_pcs (s g : ByteArray) (all : Bool) : ∀ (f i : Nat) (op : Int) (a : Nat) (out : List ByteArray), a ≤ i → i ≤ s.size → pcs g out = a → pcs g (spF s g all f i op a out) = s.size + g.size
  | 0, i, op, a, out, h1, h2, h3 => by
    rw [spF, pcs_app, h3]
    simp only [pcs]; rw [ex_size s (by omega) (Nat.le_refl _)]; omega
  | f + 1, i, op, a, out, h1, h2, h3 => by
    rw [spF]
    split
    · rename_i hi
      split
      · rename_i hc
        have h8 : i + g.size ≤ s.size := by
          unfold cutB at hc
          simp only [Bool.and_eq_true, decide_eq_true_eq] at hc
          exact hc.1.2
        refine spF_pcs s g all f _ _ _ _ (Nat.le_refl _) h8 ?_
        rw [pcs_app, h3]
        simp only [pcs]; rw [ex_size s h1 h2]; omega
      · exact spF_pcs s g all f _ _ _ _ (by omega) (by omega) h3
    · rw [pcs_app, h3]
      simp only [pcs]; rw [ex_size s (by omega) (Nat.le_refl _)]; omega
theorem spA_pcs (s g : ByteArray) (all : Bool) : pcs g (spA s g all) = s.size + g.size := spF_pcs s g all _ _ _ _ _ (Nat.le_refl _) (by omega) rfl
theorem spA_len (s g : ByteArray) (all : Bool) : 1 ≤ (spA s g all).length := by
  have h := spA_pcs s g all
  cases hs : spA s g all with
  | nil =>
    exfalso
    unfold spA at hs
    have key : ∀ (f i : Nat) (op : Int) (a : Nat) (out : List ByteArray), spF s g all f i op a out ≠ [] := by
      intro f
      induction f with
      | zero => intro i op a out; rw [spF]; simp
      | succ f ih =>
        intro i op a out
        rw [spF]
        split
        · split
          · exact ih _ _ _ _
          · exact ih _ _ _ _
        · simp
    exact key _ _ _ _ _ hs
  | cons x l => simp
def TrB (s : ByteArray) (r : Ty × Bool) : Prop := r.1.cnt ≤ 2 * s.size + 1
theorem trBr_bnd {W : ByteArray → Ty × Bool} (hW : ∀ x, TrB x (W x)) (s : ByteArray) : TrB s (trBr W s) := by
  unfold trBr
  split
  · unfold TrB; rw [cnt_mk]; simp only [Ty.cntL]; omega
  · rename_i h
    have hsz := ex_size s (a := 1) (b := s.size - 1) (by omega) (by omega)
    have hp := spA_pcs (s.extract 1 (s.size - 1)) bSt true
    rw [bSt_size, hsz] at hp
    split
    · rename_i a ha
      rw [ha] at hp
      simp only [pcs, bSt_size] at hp
      have h2 := hW a
      unfold TrB at h2 ⊢; omega
    · rename_i l hl
      have key : ∀ (l : List ByteArray) (acc : List Ty), (trAll W l acc).1.cnt + 5 * l.length ≤ 1 + Ty.cntL acc + 2 * pcs bSt l := by
        intro l
        induction l with
        | nil => intro acc; rw [trAll, cnt_mk]; simp [pcs]
        | cons x l ih =>
          intro acc
          rw [trAll]
          have h2 := hW x
          unfold TrB at h2
          split
          · have h1 := ih (acc ++ [(W x).1])
            rw [cntL_snoc] at h1
            simp only [pcs, bSt_size, List.length_cons]; omega
          · have h4 : ∀ m : List ByteArray, 3 * m.length ≤ pcs bSt m := by
              intro m
              induction m with
              | nil => simp [pcs]
              | cons y m ihm => simp only [pcs, bSt_size, List.length_cons]; omega
            have h5 := h4 l
            have h6 := ih acc
            rw [cnt_mk]; simp only [Ty.cntL, pcs, bSt_size, List.length_cons]; omega
      have h1 := key (spA (s.extract 1 (s.size - 1)) bSt true) []
      have h3 := spA_len (s.extract 1 (s.size - 1)) bSt true
      simp only [Ty.cntL] at h1
      unfold TrB; omega
theorem trF_bnd : ∀ (f : Nat) (s : ByteArray), TrB s (trF f s)
  | 0, s => by unfold TrB trF; rw [cnt_mk]; simp only [Ty.cntL]; omega
  | f + 1, s => by
    rw [trF]
    unfold trStep
    split
    · unfold TrB; rw [cnt_mk]; simp only [Ty.cntL]; omega
    split
    · unfold TrB; rw [cnt_mk]; simp only [Ty.cntL]; omega
    split
    · unfold TrB; rw [cnt_mk]; simp only [Ty.cntL]; omega
    split
    · rename_i a b hab
      have hp := spA_pcs s bAr false
      rw [hab] at hp
      simp only [pcs, bAr_size] at hp
      have h1 := trF_bnd f a
      have h2 := trF_bnd f b
      unfold TrB at h1 h2 ⊢
      rw [cnt_mk]; simp only [Ty.cntL]; omega
    · exact trBr_bnd (trF_bnd f) s
def dpL : Int → List UInt8 → Int
  | op, [] => op
  | op, c :: l => dpL (opI c.toNat op) l
def noS : Int → List UInt8 → Prop
  | _, [] => True
  | op, c :: l => ¬ (opI c.toNat op = 0 ∧ c = 32) ∧ noS (opI c.toNat op) l
theorem dpL_app : ∀ (l m : List UInt8) (op : Int), dpL op (l ++ m) = dpL (dpL op l) m
  | [], m, op => rfl
  | c :: l, m, op => by rw [List.cons_append, dpL, dpL, dpL_app l m]
theorem noS_app : ∀ (l m : List UInt8) (op : Int), noS op (l ++ m) ↔ noS op l ∧ noS (dpL op l) m
  | [], m, op => by simp [noS, dpL]
  | c :: l, m, op => by rw [List.cons_append, noS, noS, dpL, noS_app l m, and_assoc]
theorem op_in {c : UInt8} (h : pwIn c.toNat = true) (op : Int) : opI c.toNat op = op ∧ c ≠ 32 := by
  unfold pwIn at h
  rw [decide_eq_true_eq] at h
  constructor
  · unfold opI; rw [if_neg (by omega), if_neg (by omega)]
  · rintro rfl
    have e : ((32 : UInt8).toNat : Int) = 32 := rfl
    omega
theorem in_dp : ∀ (l : List UInt8), (∀ c ∈ l, pwIn c.toNat = true) → ∀ op, dpL op l = op ∧ noS op l
  | [], _, op => ⟨rfl, trivial⟩
  | c :: l, h, op => by
    have h1 := op_in (h c (by simp)) op
    have h2 := in_dp l (fun x hx => h x (by simp [hx])) op
    rw [dpL, noS, h1.1]
    exact ⟨h2.1, fun h9 => h1.2 h9.2, h2.2⟩
structure Bal (x : ByteArray) : Prop where
  dp : ∀ op, dpL op (bl x) = op
  up : ∀ op, 1 ≤ op → noS op (bl x)
theorem Bal.app {x y : ByteArray} (hx : Bal x) (hy : Bal y) : Bal (x ++ y) :=
  ⟨fun op => by rw [bl_app, dpL_app, hx.dp, hy.dp], fun op h => by rw [bl_app, noS_app, hx.dp]; exact ⟨hx.up op h, hy.up op h⟩⟩
theorem Bal.br {x : ByteArray} (hx : Bal x) : Bal (bLp ++ x ++ bRp) ∧ ∀ op, 0 ≤ op → noS op (bl (bLp ++ x ++ bRp)) := by
  have e1 : bl bLp = [40] := rfl
  have e2 : bl bRp = [41] := rfl
  have o1 : ∀ op, opI ((40 : UInt8).toNat : Int) op = op + 1 := fun op => rfl
  have o2 : ∀ op, opI ((41 : UInt8).toNat : Int) op = op - 1 := fun op => rfl
  have h2 : ∀ op, 0 ≤ op → noS op (bl (bLp ++ x ++ bRp)) := fun op h => by
    rw [bl_app, bl_app, noS_app, noS_app, e1, e2]
    simp only [noS, dpL, o1, dpL_app, hx.dp]
    exact ⟨⟨⟨fun h9 => absurd h9.2 (by decide), trivial⟩, hx.up _ (by omega)⟩, fun h9 => absurd h9.2 (by decide), trivial⟩
  refine ⟨⟨fun op => ?_, fun op h => h2 op (by omega)⟩, h2⟩
  rw [bl_app, bl_app, dpL_app, dpL_app, e1, e2]
  simp only [dpL, o1, hx.dp, o2]; omega
theorem Bal.sign {x : ByteArray} (h : ∀ c ∈ bl x, c ≠ 40 ∧ c ≠ 41) : Bal x := by
  have key : ∀ l : List UInt8, (∀ c ∈ l, c ≠ 40 ∧ c ≠ 41) → ∀ op, dpL op l = op ∧ (1 ≤ op → noS op l) := by
    intro l
    induction l with
    | nil => intro _ op; exact ⟨rfl, fun _ => trivial⟩
    | cons c l ih =>
      intro hl op
      have hc := hl c (by simp)
      have e : opI (c.toNat : Int) op = op := by
        unfold opI
        rw [if_neg fun h9 => hc.1 (UInt8.toNat_inj.1 (by show c.toNat = 40; omega)), if_neg fun h9 => hc.2 (UInt8.toNat_inj.1 (by show c.toNat = 41; omega))]
      have h2 := ih (fun x hx => hl x (by simp [hx])) op
      rw [dpL, noS, e]
      exact ⟨h2.1, fun h1 => ⟨fun h9 => by omega, h2.2 h1⟩⟩
  exact ⟨fun op => (key _ h op).1, fun op => (key _ h op).2⟩
theorem Bal.ins {x : ByteArray} (h : ∀ c ∈ bl x, pwIn c.toNat = true) : Bal x := ⟨fun op => (in_dp _ h op).1, fun op _ => (in_dp _ h op).2⟩
theorem int_in : ∀ c ∈ bl bInt, pwIn c.toNat = true := by decide
theorem bool_in : ∀ c ∈ bl bBool, pwIn c.toNat = true := by decide
theorem bal_jt : ∀ ps : List Ty, (∀ p ∈ ps, Bal p.btx) → Bal (jt ps)
  | [], _ => ⟨fun op => rfl, fun op _ => trivial⟩
  | p :: ps, h => (Bal.sign (x := bSt) (by decide)).app ((h p (by simp)).app (bal_jt ps fun q hq => h q (by simp [hq])))
theorem bal_all : ∀ T : Ty, T.right = true → Bal T.tx ∧ Bal T.btx ∧ noS 0 (bl T.btx) := by
  refine Ty.ind fun T ih => ?_
  intro hr
  have hok := right_ok hr
  have hp := right_part hr
  have fin : ¬ T.k = 4 → Bal T.tx → noS 0 (bl T.tx) → Bal T.tx ∧ Bal T.btx ∧ noS 0 (bl T.btx) := fun h h1 h2 => by rw [btx_of h]; exact ⟨h1, h1, h2⟩
  by_cases h1 : T.k = 1
  · have hv := right_var hr h1
    have e1 : ((T.n.toNat : Nat) : Int) = T.n := by omega
    have e0 : T.tx = nmB ((T.n.toNat : Nat) : Int) := by rw [T.tx_eq, if_pos h1, e1]
    have hb := nm_bytes (n := T.n.toNat) (by omega)
    exact fin (by omega) (by rw [e0]; exact .ins hb) (by rw [e0]; exact (in_dp _ hb 0).2)
  by_cases h2 : T.k = 2
  · have e0 : T.tx = bInt := by rw [T.tx_eq, if_neg h1, if_pos h2]; rfl
    exact fin (by omega) (by rw [e0]; exact .ins int_in) (by rw [e0]; exact (in_dp _ int_in 0).2)
  by_cases h3 : T.k = 3
  · have e0 : T.tx = bBool := by rw [T.tx_eq, if_neg h1, if_neg h2, if_pos h3]; rfl
    exact fin (by omega) (by rw [e0]; exact .ins bool_in) (by rw [e0]; exact (in_dp _ bool_in 0).2)
  by_cases h4 : T.k = 4
  · obtain ⟨a, b, hps⟩ := right_four hr h4
    have ha := ih a (by rw [hps]; simp) (hp a (by rw [hps]; simp))
    have hb := ih b (by rw [hps]; simp) (hp b (by rw [hps]; simp))
    have e2 : T = .mk 4 0 [a, b] := by rw [ty_eta T, h4, show T.n = 0 by omega, hps]
    have e0 : T.tx = a.btx ++ bAr ++ b.tx := by rw [e2]; rfl
    have e4 : T.btx = bLp ++ T.tx ++ bRp := by unfold Ty.btx brB; rw [if_pos (by simpa using h4)]
    have hT : Bal T.tx := by rw [e0]; exact (ha.2.1.app (.sign (by decide))).app hb.1
    exact ⟨hT, by rw [e4]; exact hT.br.1, by rw [e4]; exact hT.br.2 0 (by omega)⟩
  · have e0 : T.tx = bLp ++ joinB (T.ps.map Ty.btx) bSt ++ bRp := by rw [T.tx_eq, if_neg h1, if_neg h2, if_neg h3, if_neg h4]
    have hb : ∀ p ∈ T.ps, Bal p.btx := fun p hq => (ih p hq (hp p hq)).2.1
    have hj : Bal (joinB (T.ps.map Ty.btx) bSt) := by
      cases hps : T.ps with
      | nil => rw [hps] at hok; simp at hok; omega
      | cons q qs =>
        rw [hps] at hb
        rw [join_jt]
        exact (hb q (by simp)).app (bal_jt qs fun x hx => hb x (by simp [hx]))
    have := hj.br
    rw [← e0] at this
    exact fin h4 this.1 (this.2 0 (by omega))
section
variable {s g : ByteArray} {all : Bool}
def Sst (s g : ByteArray) (all : Bool) (i : Nat) (op : Int) (a : Nat) (out : List ByteArray) (i' : Nat) (op' : Int) (a' : Nat) (out' : List ByteArray) : Prop :=
  ∀ f, s.size - i < f → ∃ f', s.size - i' < f' ∧ spF s g all f i op a out = spF s g all f' i' op' a' out'
theorem Sst.refl (i : Nat) (op : Int) (a : Nat) (out : List ByteArray) : Sst s g all i op a out i op a out := fun f h => ⟨f, h, rfl⟩
theorem Sst.trans {i j k : Nat} {op op1 op2 : Int} {a a1 a2 : Nat} {o o1 o2 : List ByteArray} (h : Sst s g all i op a o j op1 a1 o1) (h2 : Sst s g all j op1 a1 o1 k op2 a2 o2) : Sst s g all i op a o k op2 a2 o2 := fun f hf => by
  obtain ⟨f1, g1, e1⟩ := h f hf
  obtain ⟨f2, g2, e2⟩ := h2 f1 g1
  exact ⟨f2, g2, e1.trans e2⟩
theorem Sst.one {P S : List UInt8} {c : UInt8} {op : Int} {a : Nat} {out : List ByteArray} (h : bl s = P ++ c :: S) (hc : cutB s g all P.length (opI c.toNat op) out = false) : Sst s g all P.length op a out (P.length + 1) (opI c.toNat op) a out := fun f hf => by
  obtain ⟨h1, h2⟩ := bt_at h
  obtain ⟨k, rfl⟩ : ∃ k, f = k + 1 := ⟨f - 1, by omega⟩
  refine ⟨k, by omega, ?_⟩
  rw [spF, if_pos h1, h2, if_neg (by simp [hc])]
theorem bt_ex {s : ByteArray} {i n : Nat} (hn : 1 ≤ n) (h : i + n ≤ s.size) : bt (s.extract i (i + n)) 0 = bt s i := by
  have h1 : (bl s)[i]? = some ((bl s)[i]'(by rw [bl_len]; omega)) := List.getElem?_eq_getElem _
  have h2 := bl_bt h1
  have h3 : (bl (s.extract i (i + n)))[0]? = some ((bl s)[i]'(by rw [bl_len]; omega)) := by
    have e : bl (s.extract i (i + n)) = ((bl s).drop i).take n := by
      simp only [bl, ByteArray.data_extract, Array.toList_extract, List.extract_eq_take_drop]
      rw [show i + n - i = n by omega]
    rw [e, List.getElem?_take, if_pos (by omega), List.getElem?_drop]
    simpa using h1
  rw [bl_bt h3, h2]
theorem cut_hd {i : Nat} {op : Int} {out : List ByteArray} (hg : 1 ≤ g.size) (h : ¬ bt s i = bt g 0) : cutB s g all i op out = false := by
  by_cases hl : i + g.size ≤ s.size
  · refine cut_no3 ?_
    rw [Bool.eq_false_iff]
    intro h9
    have h8 := eqS_iff.1 h9
    have h7 := bt_ex hg hl
    rw [h8] at h7
    exact h h7.symm
  · exact cut_no2 hl
theorem Sst.go (hg : 1 ≤ g.size) (h32 : bt g 0 = 32) : ∀ (X P S : List UInt8) (op : Int) (a : Nat) (out : List ByteArray), bl s = P ++ (X ++ S) → noS op X → Sst s g all P.length op a out (P.length + X.length) (dpL op X) a out
  | [], P, S, op, a, out, h, hn => Sst.refl _ _ _ _
  | c :: X, P, S, op, a, out, h, hn => by
    have h1 : bl s = P ++ c :: (X ++ S) := by rw [h]; rfl
    obtain ⟨_, h2⟩ := bt_at h1
    rw [noS] at hn
    have h3 : cutB s g all P.length (opI c.toNat op) out = false := by
      by_cases h0 : opI c.toNat op = 0
      · refine cut_hd hg ?_
        rw [h2, h32]
        intro h9
        exact hn.1 ⟨h0, UInt8.toNat_inj.1 (by show c.toNat = 32; omega)⟩
      · exact cut_no1 h0
    have h4 := Sst.go hg h32 X (P ++ [c]) S (opI c.toNat op) a out (by rw [h]; simp) hn.2
    simp only [List.length_append, List.length_cons, List.length_nil, Nat.zero_add] at h4
    rw [dpL, List.length_cons, show P.length + (X.length + 1) = P.length + 1 + X.length by omega]
    exact (Sst.one h1 h3).trans h4
theorem Sst.cut {P S : List UInt8} {a : Nat} {out : List ByteArray} (hg : 1 ≤ g.size) (h32 : bt g 0 = 32) (h : bl s = P ++ (bl g ++ S)) (ho : all = true ∨ out.length = 0) :
    Sst s g all P.length 0 a out (P.length + g.size) 0 (P.length + g.size) (out ++ [s.extract a P.length]) := fun f hf => by
  have hsz : s.size = P.length + (g.size + S.length) := by rw [← bl_len, h]; simp [bl_len]
  have h1 : bt s P.length = 32 := by
    have h2 : (bl s)[P.length]? = (bl g)[0]? := by rw [h, List.getElem?_append_right (Nat.le_refl _), Nat.sub_self, List.getElem?_append_left (by rw [bl_len]; omega)]
    have h3 : (bl g)[0]? = some ((bl g)[0]'(by rw [bl_len]; omega)) := List.getElem?_eq_getElem _
    rw [bl_bt (h2.trans h3), ← bl_bt h3, h32]
  have h4 := ex_at h
  rw [bl_len] at h4
  have h5 : s.extract P.length (P.length + g.size) = g := by rw [h4]
  obtain ⟨k, rfl⟩ : ∃ k, f = k + 1 := ⟨f - 1, by omega⟩
  refine ⟨k, by omega, ?_⟩
  rw [spF, if_pos (by omega), h1, show opI 32 0 = 0 from rfl, if_pos (cut_yes rfl (by omega) (eqS_iff.2 h5) ho)]
theorem sp_end {a : Nat} {op : Int} {out : List ByteArray} {f : Nat} (hf : 0 < f) : spF s g all f s.size op a out = out ++ [s.extract a s.size] := by
  obtain ⟨k, rfl⟩ : ∃ k, f = k + 1 := ⟨f - 1, by omega⟩
  rw [spF, if_neg (by omega)]
theorem sp_found {out : List ByteArray} (ho : ¬ out.length = 0) : ∀ (f i a : Nat) (op : Int), i ≤ s.size → s.size - i < f → spF s g false f i op a out = out ++ [s.extract a s.size]
  | 0, i, a, op, _, h => by omega
  | f + 1, i, a, op, hi, h => by
    rw [spF]
    split
    · rw [if_neg (by simp [cut_no4 rfl ho])]
      exact sp_found ho f (i + 1) a _ (by omega) (by omega)
    · rfl
end
theorem bAr32 : bt bAr 0 = 32 := by decide
theorem bSt32 : bt bSt 0 = 32 := by decide
theorem ex_all (s : ByteArray) : s.extract 0 s.size = s := by
  have h := ex_at (s := s) (P := []) (X := bl s) (S := []) (by simp)
  simp only [List.length_nil, Nat.zero_add, bl_len] at h
  rw [h]
theorem sp_none {s g : ByteArray} {all : Bool} (hg : 1 ≤ g.size) (h32 : bt g 0 = 32) (hn : noS 0 (bl s)) : spA s g all = [s] := by
  obtain ⟨f, h1, h2⟩ := Sst.go (s := s) (g := g) (all := all) hg h32 (bl s) [] [] 0 0 [] (by simp) hn (s.size + 1) (by simp)
  unfold spA
  simp only [List.length_nil, Nat.zero_add, bl_len] at h2
  rw [h2, sp_end (by omega), ex_all]; rfl
theorem sp_arrow {a b : Ty} (ha : a.right = true) : spA (a.btx ++ bAr ++ b.tx) bAr false = [a.btx, b.tx] := by
  have hb := bal_all a ha
  have e : a.btx ++ bAr ++ b.tx = a.btx ++ (bAr ++ b.tx) := ba_assoc _ _ _
  rw [e]
  have h1 := Sst.go (s := a.btx ++ (bAr ++ b.tx)) (g := bAr) (all := false) (by decide) bAr32 (bl a.btx) [] (bl (bAr ++ b.tx)) 0 0 [] (by rw [bl_app]; rfl) hb.2.2
  rw [hb.2.1.dp] at h1
  simp only [List.length_nil, Nat.zero_add] at h1
  have h2 := Sst.cut (s := a.btx ++ (bAr ++ b.tx)) (g := bAr) (all := false) (P := bl a.btx) (S := bl b.tx) (a := 0) (out := []) (by decide) bAr32 (by rw [bl_app, bl_app]) (.inr rfl)
  obtain ⟨f, h3, h4⟩ := (h1.trans h2) ((a.btx ++ (bAr ++ b.tx)).size + 1) (by omega)
  unfold spA
  have hsz : (a.btx ++ (bAr ++ b.tx)).size = a.btx.size + bAr.size + b.tx.size := by simp only [ByteArray.size_append]; omega
  rw [bl_len] at h3 h4
  have e1 : (a.btx ++ (bAr ++ b.tx)).extract 0 a.btx.size = a.btx := ex_left _ _
  have e2 : (a.btx ++ (bAr ++ b.tx)).extract (a.btx.size + bAr.size) (a.btx ++ (bAr ++ b.tx)).size = b.tx := by
    rw [← ba_assoc, ← ByteArray.size_append]; exact ex_right _ _
  rw [h4, e1, sp_found (by simp) f _ _ _ (by omega) h3, e2]
  rfl
theorem sp_parts {s : ByteArray} : ∀ (ps : List Ty) (q : Ty) (P : List UInt8) (out : List ByteArray), (∀ p ∈ q :: ps, p.right = true) → bl s = P ++ bl (q.btx ++ jt ps) →
    Sst s bSt true P.length 0 P.length out s.size 0 (s.size - ((q :: ps).getLast (by simp)).btx.size) (out ++ ((q :: ps).map Ty.btx).dropLast)
  | [], q, P, out, hr, h => by
    have hb := bal_all q (hr q (by simp))
    have hsz : s.size = P.length + q.btx.size := by rw [← bl_len, h, bl_app]; simp [jt, bl_emp, bl_len]
    have h1 := Sst.go (s := s) (g := bSt) (all := true) (by decide) bSt32 (bl q.btx) P [] 0 P.length out (by rw [h, bl_app, jt, bl_emp]) hb.2.2
    rw [hb.2.1.dp, bl_len] at h1
    simp only [List.getLast_singleton, List.map_cons, List.map_nil, List.dropLast_singleton, List.append_nil]
    rw [show s.size - q.btx.size = P.length by omega]
    rw [hsz]; exact h1
  | p :: ps, q, P, out, hr, h => by
    have hb := bal_all q (hr q (by simp))
    have e : bl (q.btx ++ jt (p :: ps)) = bl q.btx ++ (bl bSt ++ bl (p.btx ++ jt ps)) := by rw [jt, bl_app, bl_app]
    rw [e] at h
    have h1 := Sst.go (s := s) (g := bSt) (all := true) (by decide) bSt32 (bl q.btx) P (bl bSt ++ bl (p.btx ++ jt ps)) 0 P.length out h hb.2.2
    rw [hb.2.1.dp] at h1
    have h2 := Sst.cut (s := s) (g := bSt) (all := true) (P := P ++ bl q.btx) (S := bl (p.btx ++ jt ps)) (a := P.length) (out := out) (by decide) bSt32 (by rw [h]; simp) (.inl rfl)
    have h3 := sp_parts ps p (P ++ bl q.btx ++ bl bSt) (out ++ [q.btx]) (fun x hx => hr x (List.mem_cons_of_mem _ hx)) (by rw [h]; simp)
    have e1 : s.extract P.length (P.length + (bl q.btx).length) = q.btx := by rw [ex_at h]
    simp only [List.length_append, bl_len] at h1 h2 h3 e1
    rw [e1] at h2
    have h4 := (h1.trans h2).trans h3
    have e2 : (q :: p :: ps).getLast (by simp) = (p :: ps).getLast (by simp) := by rw [List.getLast_cons (by simp)]
    have e3 : out ++ ((q :: p :: ps).map Ty.btx).dropLast = out ++ [q.btx] ++ ((p :: ps).map Ty.btx).dropLast := by
      rw [List.map_cons, List.map_cons, List.dropLast_cons_of_ne_nil (by simp)]; simp
    rw [e2, e3]
    exact h4
theorem sp_tuple {q : Ty} {ps : List Ty} (hr : ∀ p ∈ q :: ps, p.right = true) : spA (joinB ((q :: ps).map Ty.btx) bSt) bSt true = (q :: ps).map Ty.btx := by
  rw [join_jt]
  obtain ⟨f, h1, h2⟩ := sp_parts (s := q.btx ++ jt ps) ps q [] [] hr (by simp) ((q.btx ++ jt ps).size + 1) (by simp)
  unfold spA
  rw [show ([] : List UInt8).length = 0 from rfl] at h2
  rw [h2, sp_end (by omega)]
  have hl : ∀ (ps : List Ty) (q : Ty), ∃ y : ByteArray, q.btx ++ jt ps = y ++ ((q :: ps).getLast (by simp)).btx := by
    intro ps
    induction ps with
    | nil => intro q; exact ⟨ByteArray.empty, by apply bl_inj; rw [bl_app, bl_app, jt, bl_emp]; simp⟩
    | cons p ps ih =>
      intro q
      obtain ⟨y, hy⟩ := ih p
      refine ⟨q.btx ++ (bSt ++ y), ?_⟩
      rw [jt, hy, List.getLast_cons (a := q) (List.cons_ne_nil p ps)]
      simp only [ba_assoc]
  obtain ⟨y, hy⟩ := hl ps q
  have e : (q.btx ++ jt ps).extract ((q.btx ++ jt ps).size - ((q :: ps).getLast (by simp)).btx.size) (q.btx ++ jt ps).size = ((q :: ps).getLast (by simp)).btx := by
    rw [hy]
    have h3 := ex_right y ((q :: ps).getLast (by simp)).btx
    have h4 : (y ++ ((q :: ps).getLast (by simp)).btx).size - ((q :: ps).getLast (by simp)).btx.size = y.size := by rw [ByteArray.size_append]; omega
    rw [h4]; exact h3
  rw [e, List.nil_append]
  have h5 : ((q :: ps).getLast (by simp)).btx = ((q :: ps).map Ty.btx).getLast (by simp) := by rw [List.getLast_map]
  rw [h5, List.dropLast_concat_getLast]
theorem tx_hd {T : Ty} (hr : T.right = true) : ∃ c l, bl T.tx = c :: l ∧ c ≠ 42 := by
  have key : ∀ T : Ty, T.right = true → ∃ c l, bl T.tx = c :: l ∧ c ≠ 42 := by
    refine Ty.ind fun T ih => ?_
    intro hr
    have hok := right_ok hr
    have hp := right_part hr
    by_cases h1 : T.k = 1
    · have hv := right_var hr h1
      have e1 : ((T.n.toNat : Nat) : Int) = T.n := by omega
      have e0 : T.tx = nmB ((T.n.toNat : Nat) : Int) := by rw [T.tx_eq, if_pos h1, e1]
      have hh := nm_head T.n.toNat (by omega)
      rw [← e0] at hh
      cases hb : bl T.tx with
      | nil => rw [hb] at hh; cases hh
      | cons c l =>
        rw [hb] at hh
        obtain rfl : c = 39 := by simpa using hh
        exact ⟨_, _, rfl, by decide⟩
    by_cases h2 : T.k = 2
    · have e0 : T.tx = bInt := by rw [T.tx_eq, if_neg h1, if_pos h2]; rfl
      rw [e0]; exact ⟨105, [110, 116], rfl, by decide⟩
    by_cases h3 : T.k = 3
    · have e0 : T.tx = bBool := by rw [T.tx_eq, if_neg h1, if_neg h2, if_pos h3]; rfl
      rw [e0]; exact ⟨98, [111, 111, 108], rfl, by decide⟩
    by_cases h4 : T.k = 4
    · obtain ⟨a, b, hps⟩ := right_four hr h4
      have e2 : T = .mk 4 0 [a, b] := by rw [ty_eta T, h4, show T.n = 0 by omega, hps]
      have e0 : T.tx = a.btx ++ bAr ++ b.tx := by rw [e2]; rfl
      have ⟨c, l, g1, g2⟩ := ih a (by rw [hps]; simp) (hp a (by rw [hps]; simp))
      rw [e0, bl_app, bl_app]
      unfold Ty.btx brB
      split
      · exact ⟨40, _, by rw [bl_app, bl_app]; rfl, by decide⟩
      · rw [g1]; exact ⟨c, _, rfl, g2⟩
    · have e0 : T.tx = bLp ++ joinB (T.ps.map Ty.btx) bSt ++ bRp := by rw [T.tx_eq, if_neg h1, if_neg h2, if_neg h3, if_neg h4]
      rw [e0, bl_app, bl_app]; exact ⟨40, _, rfl, by decide⟩
  exact key T hr
theorem st_no {s : ByteArray} {P S : List UInt8} {c : UInt8} (h : bl s = P ++ 32 :: c :: S) (hc : c ≠ 42) {op : Int} {out : List ByteArray} : cutB s bSt true P.length op out = false := by
  by_cases hl : P.length + bSt.size ≤ s.size
  · refine cut_no3 ?_
    rw [Bool.eq_false_iff]
    intro h9
    have h8 := eqS_iff.1 h9
    have h7 := congrArg (fun x => (bl x)[1]?) h8
    have e : bl (s.extract P.length (P.length + bSt.size)) = ((bl s).drop P.length).take 3 := by
      simp only [bl, ByteArray.data_extract, Array.toList_extract, List.extract_eq_take_drop]
      rw [show P.length + bSt.size - P.length = 3 by rw [bSt_size]; omega]
    simp only [e] at h7
    rw [List.getElem?_take, if_pos (by omega), List.getElem?_drop, h, List.getElem?_append_right (by omega), show P.length + 1 - P.length = 1 by omega] at h7
    have h6 : (bl bSt)[1]? = some 42 := rfl
    rw [h6] at h7
    simp at h7
    exact hc h7
  · exact cut_no2 hl
theorem st_arrow : ∀ T : Ty, T.right = true → ∀ (s : ByteArray) (P S : List UInt8), bl s = P ++ (bl T.tx ++ S) → Sst s bSt true P.length 0 0 [] (P.length + T.tx.size) 0 0 [] := by
  refine Ty.ind fun T ih => ?_
  intro hr s P S h
  have hbT := bal_all T hr
  by_cases h4 : T.k = 4
  · obtain ⟨a, b, hps⟩ := right_four hr h4
    have hok := right_ok hr
    have hp := right_part hr
    have hra := hp a (by rw [hps]; simp)
    have hrb := hp b (by rw [hps]; simp)
    have e2 : T = .mk 4 0 [a, b] := by rw [ty_eta T, h4, show T.n = 0 by omega, hps]
    have e0 : T.tx = a.btx ++ bAr ++ b.tx := by rw [e2]; rfl
    have hba := bal_all a hra
    obtain ⟨c, l, hc, hc2⟩ := tx_hd hrb
    have e1 : bl bAr = [32, 45, 62, 32] := rfl
    rw [e0, bl_app, bl_app, e1] at h
    have h1 := Sst.go (s := s) (g := bSt) (all := true) (by decide) bSt32 (bl a.btx) P ([32, 45, 62, 32] ++ (bl b.tx ++ S)) 0 0 [] (by rw [h]; simp) hba.2.2
    rw [hba.2.1.dp] at h1
    have h2 := Sst.one (s := s) (g := bSt) (all := true) (P := P ++ bl a.btx) (c := 32) (S := 45 :: 62 :: 32 :: (bl b.tx ++ S)) (op := 0) (a := 0) (out := []) (by rw [h]; simp) (st_no (c := 45) (S := 62 :: 32 :: (bl b.tx ++ S)) (by rw [h]; simp) (by decide))
    have h3 := Sst.one (s := s) (g := bSt) (all := true) (P := P ++ bl a.btx ++ [32]) (c := 45) (S := 62 :: 32 :: (bl b.tx ++ S)) (op := 0) (a := 0) (out := []) (by rw [h]; simp) (cut_hd (by decide) (by rw [(bt_at (s := s) (P := P ++ bl a.btx ++ [32]) (c := 45) (S := 62 :: 32 :: (bl b.tx ++ S)) (by rw [h]; simp)).2, bSt32]; decide))
    have h5 := Sst.one (s := s) (g := bSt) (all := true) (P := P ++ bl a.btx ++ [32] ++ [45]) (c := 62) (S := 32 :: (bl b.tx ++ S)) (op := 0) (a := 0) (out := []) (by rw [h]; simp) (cut_hd (by decide) (by rw [(bt_at (s := s) (P := P ++ bl a.btx ++ [32] ++ [45]) (c := 62) (S := 32 :: (bl b.tx ++ S)) (by rw [h]; simp)).2, bSt32]; decide))
    have h6 := Sst.one (s := s) (g := bSt) (all := true) (P := P ++ bl a.btx ++ [32] ++ [45] ++ [62]) (c := 32) (S := bl b.tx ++ S) (op := 0) (a := 0) (out := []) (by rw [h]; simp) (st_no (S := l ++ S) (c := c) (by rw [h, hc]; simp) hc2)
    have h7 := ih b (by rw [hps]; simp) hrb s (P ++ bl a.btx ++ [32] ++ [45] ++ [62] ++ [32]) S (by rw [h]; simp)
    have o1 : opI ((32 : UInt8).toNat : Int) 0 = 0 := rfl
    have o2 : opI ((45 : UInt8).toNat : Int) 0 = 0 := rfl
    have o3 : opI ((62 : UInt8).toNat : Int) 0 = 0 := rfl
    rw [o1] at h2 h6; rw [o2] at h3; rw [o3] at h5
    simp only [List.length_append, List.length_cons, List.length_nil, bl_len, Nat.zero_add] at h1 h2 h3 h5 h6 h7
    have h8 := ((((h1.trans h2).trans h3).trans h5).trans h6).trans h7
    have e5 : P.length + T.tx.size = P.length + a.btx.size + 1 + 1 + 1 + 1 + b.tx.size := by rw [e0, ByteArray.size_append, ByteArray.size_append, bAr_size]; omega
    rw [e5]; exact h8
  · have h1 := Sst.go (s := s) (g := bSt) (all := true) (by decide) bSt32 (bl T.tx) P S 0 0 [] h (by have := hbT.2.2; rwa [btx_of h4] at this)
    rw [hbT.1.dp, bl_len] at h1
    exact h1
theorem sp_star {T : Ty} (hr : T.right = true) : spA T.tx bSt true = [T.tx] := by
  obtain ⟨f, h1, h2⟩ := st_arrow T hr T.tx [] [] (by simp) (T.tx.size + 1) (by simp)
  unfold spA
  simp only [List.length_nil, Nat.zero_add] at h2
  rw [h2, sp_end (by omega), ex_all]; rfl
theorem nuR_neg {s : ByteArray} {c : UInt8} (h : c ∈ bl s) (hc : pwIn c.toNat = false) : nuR s < 0 := by
  rcases Int.lt_or_le (nuR s) 0 with h1 | h1
  · exact h1
  · have h2 := nm_nuR h1
    have h3 := nm_bytes (n := (nuR s).toNat) (by omega) c (by rw [show (((nuR s).toNat : Nat) : Int) = nuR s by omega, h2.2]; exact h)
    rw [hc] at h3; cases h3
theorem not_in {s : ByteArray} {c : UInt8} (h : c ∈ bl s) (hc : pwIn c.toNat = false) : s ≠ bInt ∧ s ≠ bBool ∧ nuR s < 0 :=
  ⟨fun e => (by rw [e] at h; rw [int_in c h] at hc; cases hc), fun e => (by rw [e] at h; rw [bool_in c h] at hc; cases hc), nuR_neg h hc⟩
theorem bt_br (x : ByteArray) : 2 ≤ (bLp ++ x ++ bRp).size ∧ bt (bLp ++ x ++ bRp) 0 = 40 ∧ bt (bLp ++ x ++ bRp) ((bLp ++ x ++ bRp).size - 1) = 41 ∧ (bLp ++ x ++ bRp).extract 1 ((bLp ++ x ++ bRp).size - 1) = x := by
  have hsz : (bLp ++ x ++ bRp).size = 1 + x.size + 1 := by rw [ByteArray.size_append, ByteArray.size_append, bLp_size, bRp_size]
  have e : bl (bLp ++ x ++ bRp) = 40 :: (bl x ++ [41]) := by rw [bl_app, bl_app]; rfl
  refine ⟨by omega, ?_, ?_, ?_⟩
  · have := bl_bt (s := bLp ++ x ++ bRp) (i := 0) (c := 40) (by rw [e]; rfl)
    rw [this]; rfl
  · have := bl_bt (s := bLp ++ x ++ bRp) (i := (bLp ++ x ++ bRp).size - 1) (c := 41) (by
      rw [e, hsz, show 1 + x.size + 1 - 1 = x.size + 1 by omega, List.getElem?_cons_succ, List.getElem?_append_right (by rw [bl_len]; omega), bl_len, Nat.sub_self]; rfl)
    rw [this]; rfl
  · have h := ex_at (s := bLp ++ x ++ bRp) (P := [40]) (X := bl x) (S := [41]) e
    rw [hsz, show 1 + x.size + 1 - 1 = 1 + x.size by omega]
    simp only [List.length_cons, List.length_nil, bl_len] at h
    rw [show (0 : Nat) + 1 = 1 from rfl] at h
    rw [h]
theorem trBr_br (W : ByteArray → Ty × Bool) (x : ByteArray) : trBr W (bLp ++ x ++ bRp) = match spA x bSt true with
    | [a] => W a
    | l => trAll W l [] := by
  obtain ⟨h1, h2, h3, h4⟩ := bt_br x
  unfold trBr
  rw [if_neg (by omega), h4]
theorem trAll_ok {W : ByteArray → Ty × Bool} : ∀ (ps acc : List Ty), (∀ p ∈ ps, W p.btx = (p, true)) → trAll W (ps.map Ty.btx) acc = (.mk 5 0 (acc ++ ps), true)
  | [], acc, _ => by rw [List.map_nil, trAll, List.append_nil]
  | p :: ps, acc, h => by
    rw [List.map_cons, trAll, h p (by simp), if_pos rfl, trAll_ok ps _ fun q hq => h q (by simp [hq])]
    simp
theorem tr_all : ∀ T : Ty, T.right = true → (∀ f, T.tx.size < f → trF f T.tx = (T, true)) ∧ ∀ f, T.btx.size < f → trF f T.btx = (T, true) := by
  refine Ty.ind fun T ih => ?_
  intro hr
  have hok := right_ok hr
  have hp := right_part hr
  have hbT := bal_all T hr
  have fin : ¬ T.k = 4 → (∀ f, T.tx.size < f → trF f T.tx = (T, true)) → (∀ f, T.tx.size < f → trF f T.tx = (T, true)) ∧ ∀ f, T.btx.size < f → trF f T.btx = (T, true) := fun h h1 => by rw [btx_of h]; exact ⟨h1, h1⟩
  by_cases h1 : T.k = 1
  · refine fin (by omega) fun f hf => ?_
    obtain ⟨g, rfl⟩ : ∃ g, f = g + 1 := ⟨f - 1, by omega⟩
    have hv := right_var hr h1
    have e1 : ((T.n.toNat : Nat) : Int) = T.n := by omega
    have e0 : T.tx = nmB ((T.n.toNat : Nat) : Int) := by rw [T.tx_eq, if_pos h1, e1]
    have hps : T.ps = [] := List.eq_nil_of_length_eq_zero (by omega)
    have hh := nm_head T.n.toNat (by omega)
    have hn := nuR_nm (n := T.n.toNat) (by omega)
    rw [trF, e0]
    unfold trStep
    rw [if_neg fun e => by rw [e] at hh; exact absurd hh (by decide), if_neg fun e => by rw [e] at hh; exact absurd hh (by decide), if_pos (by rw [hn]; omega), hn, e1, ← h1, ← hps, ← ty_eta]
  by_cases h2 : T.k = 2
  · refine fin (by omega) fun f hf => ?_
    obtain ⟨g, rfl⟩ : ∃ g, f = g + 1 := ⟨f - 1, by omega⟩
    have e0 : T.tx = bInt := by rw [T.tx_eq, if_neg h1, if_pos h2]; rfl
    have e2 : T = .mk 2 0 [] := by rw [ty_eta T, h2, show T.n = 0 by omega, List.eq_nil_of_length_eq_zero (show T.ps.length = 0 by omega)]
    rw [trF, e0]
    unfold trStep
    rw [if_pos rfl, ← e2]
  by_cases h3 : T.k = 3
  · refine fin (by omega) fun f hf => ?_
    obtain ⟨g, rfl⟩ : ∃ g, f = g + 1 := ⟨f - 1, by omega⟩
    have e0 : T.tx = bBool := by rw [T.tx_eq, if_neg h1, if_neg h2, if_pos h3]; rfl
    have e2 : T = .mk 3 0 [] := by rw [ty_eta T, h3, show T.n = 0 by omega, List.eq_nil_of_length_eq_zero (show T.ps.length = 0 by omega)]
    rw [trF, e0]
    unfold trStep
    rw [if_neg (by decide), if_pos rfl, ← e2]
  by_cases h4 : T.k = 4
  · obtain ⟨a, b, hps⟩ := right_four hr h4
    have hra := hp a (by rw [hps]; simp)
    have hrb := hp b (by rw [hps]; simp)
    have ha := ih a (by rw [hps]; simp) hra
    have hb := ih b (by rw [hps]; simp) hrb
    have e2 : T = .mk 4 0 [a, b] := by rw [ty_eta T, h4, show T.n = 0 by omega, hps]
    have e0 : T.tx = a.btx ++ bAr ++ b.tx := by rw [e2]; rfl
    have hT : ∀ f, T.tx.size < f → trF f T.tx = (T, true) := fun f hf => by
      obtain ⟨g, rfl⟩ : ∃ g, f = g + 1 := ⟨f - 1, by omega⟩
      have hno := not_in (s := T.tx) (c := 32) (by rw [e0, bl_app, bl_app]; simp [show bl bAr = [32, 45, 62, 32] from rfl]) (by rfl)
      rw [e0, ByteArray.size_append, ByteArray.size_append, bAr_size] at hf
      rw [trF]
      unfold trStep
      rw [if_neg hno.1, if_neg hno.2.1, if_neg (by omega), e0, sp_arrow hra]
      dsimp only
      rw [ha.2 g (by omega), hb.1 g (by omega), ← e2]; rfl
    refine ⟨hT, fun f hf => ?_⟩
    obtain ⟨g, rfl⟩ : ∃ g, f = g + 1 := ⟨f - 1, by omega⟩
    have e4 : T.btx = bLp ++ T.tx ++ bRp := by unfold Ty.btx brB; rw [if_pos (by simpa using h4)]
    have hno := not_in (s := T.btx) (c := 40) (by rw [e4, bl_app, bl_app]; simp [show bl bLp = [40] from rfl]) (by rfl)
    rw [trF]
    unfold trStep
    rw [if_neg hno.1, if_neg hno.2.1, if_neg (by omega), sp_none (by decide) bAr32 hbT.2.2]
    dsimp only
    rw [e4, trBr_br, sp_star hr]
    dsimp only
    rw [e4, ByteArray.size_append, ByteArray.size_append, bLp_size, bRp_size] at hf
    exact hT g (by omega)
  · refine fin h4 fun f hf => ?_
    obtain ⟨g, rfl⟩ : ∃ g, f = g + 1 := ⟨f - 1, by omega⟩
    have e0 : T.tx = bLp ++ joinB (T.ps.map Ty.btx) bSt ++ bRp := by rw [T.tx_eq, if_neg h1, if_neg h2, if_neg h3, if_neg h4]
    have e2 : T = .mk 5 0 T.ps := by
      have := ty_eta T
      rw [show T.k = 5 by omega, show T.n = 0 by omega] at this; exact this
    have hno := not_in (s := T.tx) (c := 40) (by rw [e0, bl_app, bl_app]; simp [show bl bLp = [40] from rfl]) (by rfl)
    have hn0 := hbT.2.2
    rw [btx_of h4] at hn0
    obtain ⟨p, q, ps, hps⟩ : ∃ p q ps, T.ps = p :: q :: ps := by
      match hq : T.ps with
      | [] => rw [hq, List.length_nil] at hok; omega
      | [_] => rw [hq, List.length_singleton] at hok; omega
      | p :: q :: ps => exact ⟨p, q, ps, rfl⟩
    have hsp : spA (joinB (T.ps.map Ty.btx) bSt) bSt true = T.ps.map Ty.btx := by
      rw [hps]; rw [hps] at hp; exact sp_tuple hp
    rw [e0, ByteArray.size_append, ByteArray.size_append, bLp_size, bRp_size] at hf
    have hall := trAll_ok (W := trF g) T.ps [] fun x hx => (ih x hx (hp x hx)).2 g (by have := mem_btx_size hx; omega)
    rw [List.nil_append, ← e2] at hall
    rw [trF]
    unfold trStep
    rw [if_neg hno.1, if_neg hno.2.1, if_neg (by omega), sp_none (by decide) bAr32 hn0]
    dsimp only
    rw [e0, trBr_br, hsp]
    rw [hps] at hall ⊢
    exact hall
theorem tr_tx {T : Ty} (h : T.right = true) : trF (T.tx.size + 1) T.tx = (T, true) := (tr_all T h).1 _ (by omega)
end Go.Proofs.YtkokfdmggdhfmaaDoor
namespace Go.Proofs.YtkokfdmggdhfmaaDoor
open Go Go.RowKit
set_option maxRecDepth 100000
set_option maxHeartbeats 4000000
set_option linter.unusedSimpArgs false
set_option linter.unnecessarySimpa false
set_option linter.unusedVariables false
attribute [local irreducible] aops dRun
def TrOk (f : Nat) : Prop := ∀ s : ByteArray, s.size < f → s.size ≤ 524288 → APure Tryd.prog 17 [.v (.string s)] (.tup [.agg (trF f s).1.cells, .v (.bool (trF f s).2)])
theorem und_slS {n : Nat} (l : List ByteArray) : Und n (.sl 1 (l.map strC)) := .data (dataStrs l)
structure TrS where
  l : List ByteArray
  acc : List Ty
def TrS.ok (f : Nat) (l : List ByteArray) (k : Nat) (w : TrS) : Prop := w.l = l.drop k ∧ k ≤ l.length ∧ w.acc.length = k ∧ trAll (trF f) w.l w.acc = trAll (trF f) l []
theorem TrS.start (f : Nat) (l : List ByteArray) : TrS.ok f l 0 ⟨l, []⟩ := ⟨rfl, by omega, rfl, rfl⟩
theorem TrS.ok.next {f : Nat} {l : List ByteArray} {w : TrS} {x : ByteArray} (h : w.ok f l w.acc.length) (hx : l[w.acc.length]? = some x) (hg : (trF f x).2 = true) : TrS.ok f l (w.acc ++ [(trF f x).1]).length ⟨w.l.tail, w.acc ++ [(trF f x).1]⟩ := by
  obtain ⟨h1, h2, h3, h4⟩ := h
  have hl := (List.getElem?_eq_some_iff.1 hx).1
  have hd := List.drop_eq_getElem_cons hl
  have he := (List.getElem?_eq_some_iff.1 hx).2
  rw [he] at hd
  rw [hd] at h1
  refine ⟨by rw [h1]; simp, by simp; omega, rfl, ?_⟩
  rw [h1, trAll, if_pos hg] at h4
  rw [← h4, h1]; rfl
theorem TrS.ok.bad {f : Nat} {l : List ByteArray} {w : TrS} {x : ByteArray} (h : w.ok f l w.acc.length) (hx : l[w.acc.length]? = some x) (hg : (trF f x).2 = false) : trAll (trF f) l [] = (.mk 0 0 [], false) := by
  obtain ⟨h1, h2, h3, h4⟩ := h
  have hl := (List.getElem?_eq_some_iff.1 hx).1
  have hd := List.drop_eq_getElem_cons hl
  have he := (List.getElem?_eq_some_iff.1 hx).2
  rw [he] at hd
  rw [hd] at h1
  rw [h1, trAll, if_neg (by simp [hg])] at h4
  exact h4.symm
theorem TrS.ok.stop {f : Nat} {l : List ByteArray} {w : TrS} (h : w.ok f l w.acc.length) (hk : ¬ w.acc.length < l.length) : trAll (trF f) l [] = (.mk 5 0 w.acc, true) := by
  obtain ⟨h1, h2, h3, h4⟩ := h
  rw [h1, List.drop_of_length_le (by omega), trAll] at h4
  exact h4.symm
theorem two_of {α : Type} {l : List α} (h : l.length = 2) : ∃ a b, l = [a, b] := by
  match l, h with
  | [a, b], _ => exact ⟨a, b, rfl⟩
theorem oneS_of {α : Type} {l : List α} (h : l.length = 1) : ∃ a, l = [a] := by
  match l, h with
  | [a], _ => exact ⟨a, rfl⟩
theorem trBr_no (W : ByteArray → Ty × Bool) {s : ByteArray} (h : s.size < 2 ∨ ¬ bt s 0 = 40 ∨ ¬ bt s (s.size - 1) = 41) : trBr W s = (.mk 0 0 [], false) := by unfold trBr; rw [if_pos h]
theorem trBr_one (W : ByteArray → Ty × Bool) {s a : ByteArray} (h : ¬ (s.size < 2 ∨ ¬ bt s 0 = 40 ∨ ¬ bt s (s.size - 1) = 41)) (hs : spA (s.extract 1 (s.size - 1)) bSt true = [a]) : trBr W s = W a := by unfold trBr; rw [if_neg h, hs]
theorem trBr_more (W : ByteArray → Ty × Bool) {s : ByteArray} (h : ¬ (s.size < 2 ∨ ¬ bt s 0 = 40 ∨ ¬ bt s (s.size - 1) = 41)) (hs : ¬ (spA (s.extract 1 (s.size - 1)) bSt true).length = 1) : trBr W s = trAll W (spA (s.extract 1 (s.size - 1)) bSt true) [] := by
  unfold trBr; rw [if_neg h]
  split
  · rename_i a ha; rw [ha] at hs; exact absurd rfl hs
  · rfl
theorem trStep_br (W : ByteArray → Ty × Bool) {s : ByteArray} (h1 : ¬ s = bInt) (h2 : ¬ s = bBool) (h3 : ¬ 0 ≤ nuR s) (h4 : ¬ (spA s bAr false).length = 2) : trStep W s = trBr W s := by
  unfold trStep
  rw [if_neg h1, if_neg h2, if_neg h3]
  split
  · rename_i a b hab; rw [hab] at h4; exact absurd rfl h4
  · rfl
theorem trStep_two (W : ByteArray → Ty × Bool) {s a b : ByteArray} (h1 : ¬ s = bInt) (h2 : ¬ s = bBool) (h3 : ¬ 0 ≤ nuR s) (h4 : spA s bAr false = [a, b]) : trStep W s = (.mk 4 0 [(W a).1, (W b).1], (W a).2 && (W b).2) := by
  unfold trStep
  rw [if_neg h1, if_neg h2, if_neg h3, h4]
theorem pcs_len : ∀ l : List ByteArray, 3 * l.length ≤ pcs bSt l
  | [] => by simp [pcs]
  | x :: l => by
    have := pcs_len l
    simp only [pcs, bSt_size, List.length_cons]; omega
theorem strGet {l : List ByteArray} {i : Nat} {x : ByteArray} (h : l[i]? = some x) : (l.map strC).getD i [] = [AV.v (.string x)] := by rw [List.getD_eq_getElem?_getD, List.getElem?_map, h]; rfl
theorem rtype_s (f : Nat) (ih : ∀ g, g ≤ f → TrOk g) (s : ByteArray) (hf : s.size < f + 1) (hs : s.size ≤ 524288) : APure Tryd.prog 17 [.v (.string s)] (.tup [.agg (trF (f + 1) s).1.cells, .v (.bool (trF (f + 1) s).2)]) := by
  refine APure.mkL (.cons (.v _) .nil) (.tup (.cons (Ty.dataAgg _) (.cons (.v _) .nil))) ?_
  refine ACalls_intro Tryd.func17 (by kernel_rfl) rfl (by rw [Tryd.ntmps17]; simp) (fun hm => ?_)
  simp only [Tryd.ntmps17, Tryd.results17, List.length_cons, List.length_nil, Nat.reduceAdd, Nat.reduceSub, List.replicate_succ, List.replicate_zero, List.cons_append, List.nil_append]
  have hb0 := bt_range s 0
  have hbl := bt_range s (s.size - 1)
  have hc0 : ((((s[0]?).getD 0).toNat : Nat) : Int) = bt s 0 := rfl
  have hcl : ((((s[s.size - 1]?).getD 0).toNat : Nat) : Int) = bt s (s.size - 1) := rfl
  have hpa := spA_pcs s bAr false
  rw [bAr_size] at hpa
  refine AWp_seqK fun Y0 y0 => ?_
  refine AWp_region ?_
  refine aops_chunk 1 fun Q0 q0 => ?_
  simp only [↓bO, go_sem, seval, strC, hc0]
  refine q0 _ ?_
  clear q0 Q0
  simp only [go_sem]
  simp only [↓bO, go_sem, seval, strC, hc0]
  refine y0 _ ?_
  try clear y0 Y0
  refine AWp_seqK fun Y0 y0 => ?_
  refine AWp_seqK fun Y1 y1 => ?_
  refine AWp_region ?_
  refine aops_chunk 1 fun Q0 q0 => ?_
  simp only [↓bO, go_sem, seval, strC, hc0]
  refine q0 _ ?_
  clear q0 Q0
  simp only [go_sem]
  simp only [↓bO, go_sem, seval, strC, hc0]
  refine y1 _ ?_
  try clear y1 Y1
  refine AWp_cond rfl (fun hb16 => ?_) (fun hb16 => ?_)
  ·
   have hi : s = bInt := eqS_iff.1 hb16
   refine AWp_seqK fun Y1 y1 => ?_
   refine AWp_region ?_
   iterate 2 (refine aops_chunk 1 fun Q0 q0 => ?_; simp only [↓bO, go_sem, seval, strC, hc0]; refine q0 _ ?_; clear q0 Q0; simp only [go_sem])
   simp only [↓bO, go_sem, seval, strC, hc0]
   refine y1 _ ?_
   try clear y1 Y1
   refine AWp_ret ?_
   try simp only [thenQ, blockQ, noGotoQ, retQ, aRes, tupOf, bS, bA, aLoad, getO, pack, bL, Nat.reduceAdd, Nat.reduceLeDiff, Nat.reduceEqDiff, ↓reduceIte, ti25, tyX, List.length_map, strC, hc0]
   rw [trF, trStep, if_pos hi]
   first | exact Le.refl _ | exact Le.tup ⟨zT_le, .refl _, trivial⟩ | (simp only [Ty.pcells, List.map_cons, List.map_nil]; first | exact Le.refl _ | exact Le.tup ⟨Le.agg ⟨.refl _, .refl _, Le.slNil 3, trivial⟩, .refl _, trivial⟩ | exact Le.tup ⟨Le.agg ⟨.refl _, .refl _, Le.osl _ _ _, trivial⟩, .refl _, trivial⟩)
  ·
   have hi : ¬ s = bInt := eqS_no hb16
   refine AWp_skip ?_
   try simp only [thenQ, blockQ, noGotoQ]
   refine y0 _ ?_
   try clear y0 Y0
   refine AWp_seqK fun Y0 y0 => ?_
   refine AWp_seqK fun Y1 y1 => ?_
   refine AWp_region ?_
   refine aops_chunk 1 fun Q0 q0 => ?_
   simp only [↓bO, go_sem, seval, strC, hc0]
   refine q0 _ ?_
   clear q0 Q0
   simp only [go_sem]
   simp only [↓bO, go_sem, seval, strC, hc0]
   refine y1 _ ?_
   try clear y1 Y1
   refine AWp_cond rfl (fun hb19 => ?_) (fun hb19 => ?_)
   ·
    have hb : s = bBool := eqS_iff.1 hb19
    refine AWp_seqK fun Y1 y1 => ?_
    refine AWp_region ?_
    iterate 2 (refine aops_chunk 1 fun Q0 q0 => ?_; simp only [↓bO, go_sem, seval, strC, hc0]; refine q0 _ ?_; clear q0 Q0; simp only [go_sem])
    simp only [↓bO, go_sem, seval, strC, hc0]
    refine y1 _ ?_
    try clear y1 Y1
    refine AWp_ret ?_
    try simp only [thenQ, blockQ, noGotoQ, retQ, aRes, tupOf, bS, bA, aLoad, getO, pack, bL, Nat.reduceAdd, Nat.reduceLeDiff, Nat.reduceEqDiff, ↓reduceIte, ti25, tyX, List.length_map, strC, hc0]
    rw [trF, trStep, if_neg hi, if_pos hb]
    first | exact Le.refl _ | exact Le.tup ⟨zT_le, .refl _, trivial⟩ | (simp only [Ty.pcells, List.map_cons, List.map_nil]; first | exact Le.refl _ | exact Le.tup ⟨Le.agg ⟨.refl _, .refl _, Le.slNil 3, trivial⟩, .refl _, trivial⟩ | exact Le.tup ⟨Le.agg ⟨.refl _, .refl _, Le.osl _ _ _, trivial⟩, .refl _, trivial⟩)
   ·
    have hb : ¬ s = bBool := eqS_no hb19
    refine AWp_skip ?_
    try simp only [thenQ, blockQ, noGotoQ]
    refine y0 _ ?_
    try clear y0 Y0
    refine AWp_seqK fun Y0 y0 => ?_
    refine AWp_seqK fun Y1 y1 => ?_
    refine AWp_region ?_
    refine aops_chunk 1 fun Q0 q0 => ?_
    simp only [↓bO, go_sem, seval, strC, hc0]
    refine q0 _ ?_
    clear q0 Q0
    simp only [go_sem]
    refine aops_chunk 1 fun Q0 q0 => ?_
    simp only [↓bO, go_sem, seval, strC, hc0]
    refine APure.call (RNumber_pure s (by omega)) ?_
    try simp only [bS, bA, thenQ, blockQ, noGotoQ]
    refine q0 _ ?_
    clear q0 Q0
    simp only [go_sem]
    simp only [↓bO, go_sem, seval, strC, hc0]
    refine y1 _ ?_
    try clear y1 Y1
    refine AWp_seqK fun Y1 y1 => ?_
    refine AWp_region ?_
    refine aops_chunk 1 fun Q0 q0 => ?_
    simp only [↓bO, go_sem, seval, strC, hc0]
    refine q0 _ ?_
    clear q0 Q0
    simp only [go_sem]
    simp only [↓bO, go_sem, seval, strC, hc0]
    refine y1 _ ?_
    try clear y1 Y1
    refine AWp_cond rfl (fun hb24 => ?_) (fun hb24 => ?_)
    ·
     have hn : 0 ≤ nuR s := by simpa using hb24
     refine AWp_seqK fun Y1 y1 => ?_
     refine AWp_region ?_
     iterate 3 (refine aops_chunk 1 fun Q0 q0 => ?_; simp only [↓bO, go_sem, seval, strC, hc0]; refine q0 _ ?_; clear q0 Q0; simp only [go_sem])
     simp only [↓bO, go_sem, seval, strC, hc0]
     refine y1 _ ?_
     try clear y1 Y1
     refine AWp_ret ?_
     try simp only [thenQ, blockQ, noGotoQ, retQ, aRes, tupOf, bS, bA, aLoad, getO, pack, bL, Nat.reduceAdd, Nat.reduceLeDiff, Nat.reduceEqDiff, ↓reduceIte, ti25, tyX, List.length_map, strC, hc0]
     rw [trF, trStep, if_neg hi, if_neg hb, if_pos hn]
     first | exact Le.refl _ | exact Le.tup ⟨zT_le, .refl _, trivial⟩ | (simp only [Ty.pcells, List.map_cons, List.map_nil]; first | exact Le.refl _ | exact Le.tup ⟨Le.agg ⟨.refl _, .refl _, Le.slNil 3, trivial⟩, .refl _, trivial⟩ | exact Le.tup ⟨Le.agg ⟨.refl _, .refl _, Le.osl _ _ _, trivial⟩, .refl _, trivial⟩)
    ·
     have hn : ¬ 0 ≤ nuR s := by simpa using hb24
     refine AWp_skip ?_
     try simp only [thenQ, blockQ, noGotoQ]
     refine y0 _ ?_
     try clear y0 Y0
     refine AWp_seqK fun Y0 y0 => ?_
     refine AWp_seqK fun Y1 y1 => ?_
     refine AWp_region ?_
     refine aops_chunk 1 fun Q0 q0 => ?_
     simp only [↓bO, go_sem, seval, strC, hc0]
     refine q0 _ ?_
     clear q0 Q0
     simp only [go_sem]
     refine aops_chunk 1 fun Q0 q0 => ?_
     simp only [↓bO, go_sem, seval, strC, hc0]
     refine APure.call (RSplit_pure s bAr false (by decide) (by decide) (by omega)) ?_
     try simp only [bS, bA, thenQ, blockQ, noGotoQ]
     refine q0 _ ?_
     clear q0 Q0
     simp only [go_sem]
     simp only [↓bO, go_sem, seval, strC, hc0]
     refine y1 _ ?_
     try clear y1 Y1
     refine AWp_seqK fun Y1 y1 => ?_
     refine AWp_region ?_
     iterate 2 (refine aops_chunk 1 fun Q0 q0 => ?_; simp only [↓bO, go_sem, seval, strC, hc0]; refine q0 _ ?_; clear q0 Q0; simp only [go_sem])
     simp only [↓bO, go_sem, seval, strC, hc0]
     refine y1 _ ?_
     try clear y1 Y1
     refine AWp_cond rfl (fun hb31 => ?_) (fun hb31 => ?_)
     ·
      obtain ⟨a, b, hab⟩ := two_of (l := spA s bAr false) (by have h9 := hb31; simp at h9; omega)
      rw [hab] at hpa
      simp only [pcs, bAr_size] at hpa
      simp only [hab, List.map_cons, List.map_nil]
      refine AWp_seqK fun Y1 y1 => ?_
      refine AWp_region ?_
      iterate 3 (refine aops_chunk 1 fun Q0 q0 => ?_; simp only [↓bO, go_sem, seval, strC, hc0]; refine q0 _ ?_; clear q0 Q0; simp only [go_sem])
      refine aops_chunk 1 fun Q0 q0 => ?_
      simp only [↓bO, go_sem, seval, strC, hc0]
      refine APure.call (ih f (Nat.le_refl f) a (by omega) (by omega)) ?_
      try simp only [bS, bA, thenQ, blockQ, noGotoQ]
      iterate 5 (refine q0 _ ?_; clear q0 Q0; simp only [go_sem]; refine aops_chunk 1 fun Q0 q0 => ?_; simp only [↓bO, go_sem, seval, strC, hc0])
      refine q0 _ ?_
      clear q0 Q0
      simp only [go_sem]
      simp only [↓bO, go_sem, seval, strC, hc0]
      refine y1 _ ?_
      try clear y1 Y1
      refine AWp_seqK fun Y1 y1 => ?_
      refine AWp_region ?_
      iterate 3 (refine aops_chunk 1 fun Q0 q0 => ?_; simp only [↓bO, go_sem, seval, strC, hc0]; refine q0 _ ?_; clear q0 Q0; simp only [go_sem])
      refine aops_chunk 1 fun Q0 q0 => ?_
      simp only [↓bO, go_sem, seval, strC, hc0]
      refine APure.call (ih f (Nat.le_refl f) b (by omega) (by omega)) ?_
      try simp only [bS, bA, thenQ, blockQ, noGotoQ]
      iterate 5 (refine q0 _ ?_; clear q0 Q0; simp only [go_sem]; refine aops_chunk 1 fun Q0 q0 => ?_; simp only [↓bO, go_sem, seval, strC, hc0])
      refine q0 _ ?_
      clear q0 Q0
      simp only [go_sem]
      simp only [↓bO, go_sem, seval, strC, hc0]
      refine y1 _ ?_
      try clear y1 Y1
      refine AWp_seqK fun Y1 y1 => ?_
      refine AWp_region ?_
      iterate 2 (refine aops_chunk 1 fun Q0 q0 => ?_; simp only [↓bO, go_sem, seval, strC, hc0]; refine q0 _ ?_; clear q0 Q0; simp only [go_sem])
      refine aops_chunk 1 fun Q0 q0 => ?_
      simp only [↓bO, go_sem, seval, ↓bs2_1, ↓bs2_2, ↓bs2_3, ↓bs2_4, ↓bs2_5, ↓bs2_6, ↓bs2_7, ↓bs2_8, ↓bs2_9, ↓bs2_10, ↓bs2_11, ↓bs2_12, strC, hc0]
      iterate 3 (refine q0 _ ?_; clear q0 Q0; simp only [go_sem]; refine aops_chunk 1 fun Q0 q0 => ?_; simp only [↓bO, go_sem, seval, strC, hc0])
      refine q0 _ ?_
      clear q0 Q0
      simp only [go_sem]
      refine aops_case 51 rfl (fun hc51 => ?_) (fun hc51 => ?_)
      ·
       simp only [List.set_cons_zero, List.set_cons_succ]
       have ha2 : (trF f a).2 = true := by simpa using hc51
       simp only [ha2, Bool.true_and]
       iterate 3 (refine aops_chunk 1 fun Q0 q0 => ?_; simp only [↓bO, go_sem, seval, strC, hc0]; refine q0 _ ?_; clear q0 Q0; simp only [go_sem])
       simp only [↓bO, go_sem, seval, strC, hc0]
       refine y1 _ ?_
       try clear y1 Y1
       refine AWp_ret ?_
       try simp only [thenQ, blockQ, noGotoQ, retQ, aRes, tupOf, bS, bA, aLoad, getO, pack, bL, Nat.reduceAdd, Nat.reduceLeDiff, Nat.reduceEqDiff, ↓reduceIte, ti25, tyX, List.length_map, strC, hc0]
       rw [trF, trStep_two _ hi hb hn hab]
       simp only [ha2, Bool.true_and, Bool.false_and]
       first | exact Le.refl _ | exact Le.tup ⟨zT_le, .refl _, trivial⟩ | (simp only [Ty.pcells, List.map_cons, List.map_nil]; first | exact Le.refl _ | exact Le.tup ⟨Le.agg ⟨.refl _, .refl _, Le.slNil 3, trivial⟩, .refl _, trivial⟩ | exact Le.tup ⟨Le.agg ⟨.refl _, .refl _, Le.osl _ _ _, trivial⟩, .refl _, trivial⟩)
      ·
       simp only [List.set_cons_zero, List.set_cons_succ]
       have ha2 : (trF f a).2 = false := by simpa using hc51
       simp only [ha2, Bool.false_and]
       iterate 3 (refine aops_chunk 1 fun Q0 q0 => ?_; simp only [↓bO, go_sem, seval, strC, hc0]; refine q0 _ ?_; clear q0 Q0; simp only [go_sem])
       simp only [↓bO, go_sem, seval, strC, hc0]
       refine y1 _ ?_
       try clear y1 Y1
       refine AWp_ret ?_
       try simp only [thenQ, blockQ, noGotoQ, retQ, aRes, tupOf, bS, bA, aLoad, getO, pack, bL, Nat.reduceAdd, Nat.reduceLeDiff, Nat.reduceEqDiff, ↓reduceIte, ti25, tyX, List.length_map, strC, hc0]
       rw [trF, trStep_two _ hi hb hn hab]
       simp only [ha2, Bool.true_and, Bool.false_and]
       first | exact Le.refl _ | exact Le.tup ⟨zT_le, .refl _, trivial⟩ | (simp only [Ty.pcells, List.map_cons, List.map_nil]; first | exact Le.refl _ | exact Le.tup ⟨Le.agg ⟨.refl _, .refl _, Le.slNil 3, trivial⟩, .refl _, trivial⟩ | exact Le.tup ⟨Le.agg ⟨.refl _, .refl _, Le.osl _ _ _, trivial⟩, .refl _, trivial⟩)
     ·
      have h2 : ¬ (spA s bAr false).length = 2 := by (have h9 := hb31; simp at h9; omega)
      refine AWp_skip ?_
      try simp only [thenQ, blockQ, noGotoQ]
      refine y0 _ ?_
      try clear y0 Y0
      refine AWp_seqK fun Y0 y0 => ?_
      refine AWp_seqK fun Y1 y1 => ?_
      refine AWp_region ?_
      iterate 4 (refine aops_chunk 1 fun Q0 q0 => ?_; simp only [↓bO, go_sem, seval, strC, hc0]; refine q0 _ ?_; clear q0 Q0; simp only [go_sem])
      refine aops_case 57 rfl (fun hc57 => ?_) (fun hc57 => ?_)
      ·
       simp only [List.set_cons_zero, List.set_cons_succ]
       have hbr : s.size < 2 ∨ ¬ bt s 0 = 40 ∨ ¬ bt s (s.size - 1) = 41 := .inl (by (have h9 := hc57; simp at h9; omega))
       iterate 11 (refine aops_chunk 1 fun Q0 q0 => ?_; simp only [↓bO, go_sem, seval, strC, hc0]; refine q0 _ ?_; clear q0 Q0; simp only [go_sem])
       simp only [↓bO, go_sem, seval, strC, hc0]
       refine y1 _ ?_
       try clear y1 Y1
       refine AWp_cond (b := true) (by first | exact rfl | exact congrArg (fun b => AV.v (.bool b)) hb69) (fun _ => ?_) (fun h => (by cases h))
       refine AWp_seqK fun Y1 y1 => ?_
       refine AWp_region ?_
       iterate 2 (refine aops_chunk 1 fun Q0 q0 => ?_; simp only [↓bO, go_sem, seval, strC, hc0]; refine q0 _ ?_; clear q0 Q0; simp only [go_sem])
       simp only [↓bO, go_sem, seval, strC, hc0]
       refine y1 _ ?_
       try clear y1 Y1
       refine AWp_ret ?_
       try simp only [thenQ, blockQ, noGotoQ, retQ, aRes, tupOf, bS, bA, aLoad, getO, pack, bL, Nat.reduceAdd, Nat.reduceLeDiff, Nat.reduceEqDiff, ↓reduceIte, ti25, tyX, List.length_map, strC, hc0]
       rw [trF, trStep_br _ hi hb hn h2, trBr_no _ hbr]
       first | exact Le.refl _ | exact Le.tup ⟨zT_le, .refl _, trivial⟩ | (simp only [Ty.pcells, List.map_cons, List.map_nil]; first | exact Le.refl _ | exact Le.tup ⟨Le.agg ⟨.refl _, .refl _, Le.slNil 3, trivial⟩, .refl _, trivial⟩ | exact Le.tup ⟨Le.agg ⟨.refl _, .refl _, Le.osl _ _ _, trivial⟩, .refl _, trivial⟩)
      ·
       simp only [List.set_cons_zero, List.set_cons_succ]
       have hs2 : 2 ≤ s.size := by (have h9 := hc57; simp at h9; omega)
       have hl0 : ((0 : Int) < (s.size : Int)) = True := eq_true (by omega)
       have hw1 : IntKind.i64.wrap ((s.size : Int) - 1) = ((s.size - 1 : Nat) : Int) := by (rw [wrap_in (by omega) (by omega)]; omega)
       have hll : (((s.size - 1 : Nat) : Int) < (s.size : Int)) = True := eq_true (by omega)
       have hl1 : ((1 : Int) ≤ ((s.size - 1 : Nat) : Int)) = True := eq_true (by omega)
       have hle : (((s.size - 1 : Nat) : Int) ≤ (s.size : Int)) = True := eq_true (by omega)
       have hex := ex_size s (a := 1) (b := s.size - 1) (by omega) (by omega)
       iterate 5 (refine aops_chunk 1 fun Q0 q0 => ?_; simp only [↓bO, go_sem, seval, strC, hc0, hl0, hw1, hll, hl1, hle, hcl]; refine q0 _ ?_; clear q0 Q0; simp only [go_sem])
       refine aops_case 62 rfl (fun hc62 => ?_) (fun hc62 => ?_)
       ·
        simp only [List.set_cons_zero, List.set_cons_succ]
        have hbr : s.size < 2 ∨ ¬ bt s 0 = 40 ∨ ¬ bt s (s.size - 1) = 41 := by (first | exact hbr | exact .inr (.inl (by (have h9 := hc62; simp at h9; omega))))
        iterate 6 (refine aops_chunk 1 fun Q0 q0 => ?_; simp only [↓bO, go_sem, seval, strC, hc0, hl0, hw1, hll, hl1, hle, hcl]; refine q0 _ ?_; clear q0 Q0; simp only [go_sem])
        simp only [↓bO, go_sem, seval, strC, hc0, hl0, hw1, hll, hl1, hle, hcl]
        refine y1 _ ?_
        try clear y1 Y1
        refine AWp_cond (b := true) (by first | exact rfl | exact congrArg (fun b => AV.v (.bool b)) hb69) (fun _ => ?_) (fun h => (by cases h))
        refine AWp_seqK fun Y1 y1 => ?_
        refine AWp_region ?_
        iterate 2 (refine aops_chunk 1 fun Q0 q0 => ?_; simp only [↓bO, go_sem, seval, strC, hc0, hl0, hw1, hll, hl1, hle, hcl]; refine q0 _ ?_; clear q0 Q0; simp only [go_sem])
        simp only [↓bO, go_sem, seval, strC, hc0, hl0, hw1, hll, hl1, hle, hcl]
        refine y1 _ ?_
        try clear y1 Y1
        refine AWp_ret ?_
        try simp only [thenQ, blockQ, noGotoQ, retQ, aRes, tupOf, bS, bA, aLoad, getO, pack, bL, Nat.reduceAdd, Nat.reduceLeDiff, Nat.reduceEqDiff, ↓reduceIte, ti25, tyX, List.length_map, strC, hc0, hl0, hw1, hll, hl1, hle, hcl]
        rw [trF, trStep_br _ hi hb hn h2, trBr_no _ hbr]
        first | exact Le.refl _ | exact Le.tup ⟨zT_le, .refl _, trivial⟩ | (simp only [Ty.pcells, List.map_cons, List.map_nil]; first | exact Le.refl _ | exact Le.tup ⟨Le.agg ⟨.refl _, .refl _, Le.slNil 3, trivial⟩, .refl _, trivial⟩ | exact Le.tup ⟨Le.agg ⟨.refl _, .refl _, Le.osl _ _ _, trivial⟩, .refl _, trivial⟩)
       ·
        simp only [List.set_cons_zero, List.set_cons_succ]
        have h40 : bt s 0 = 40 := by (have h9 := hc62; simp at h9; omega)
        iterate 6 (refine aops_chunk 1 fun Q0 q0 => ?_; simp only [↓bO, go_sem, seval, strC, hc0, hl0, hw1, hll, hl1, hle, hcl]; refine q0 _ ?_; clear q0 Q0; simp only [go_sem])
        simp only [↓bO, go_sem, seval, strC, hc0, hl0, hw1, hll, hl1, hle, hcl]
        refine y1 _ ?_
        try clear y1 Y1
        refine AWp_cond rfl (fun hb69 => ?_) (fun hb69 => ?_)
        ·
         have hbr : s.size < 2 ∨ ¬ bt s 0 = 40 ∨ ¬ bt s (s.size - 1) = 41 := by (first | exact hbr | exact .inr (.inr (by (have h9 := hb69; simp at h9; omega))))
         refine AWp_seqK fun Y1 y1 => ?_
         refine AWp_region ?_
         iterate 2 (refine aops_chunk 1 fun Q0 q0 => ?_; simp only [↓bO, go_sem, seval, strC, hc0, hl0, hw1, hll, hl1, hle, hcl]; refine q0 _ ?_; clear q0 Q0; simp only [go_sem])
         simp only [↓bO, go_sem, seval, strC, hc0, hl0, hw1, hll, hl1, hle, hcl]
         refine y1 _ ?_
         try clear y1 Y1
         refine AWp_ret ?_
         try simp only [thenQ, blockQ, noGotoQ, retQ, aRes, tupOf, bS, bA, aLoad, getO, pack, bL, Nat.reduceAdd, Nat.reduceLeDiff, Nat.reduceEqDiff, ↓reduceIte, ti25, tyX, List.length_map, strC, hc0, hl0, hw1, hll, hl1, hle, hcl]
         rw [trF, trStep_br _ hi hb hn h2, trBr_no _ hbr]
         first | exact Le.refl _ | exact Le.tup ⟨zT_le, .refl _, trivial⟩ | (simp only [Ty.pcells, List.map_cons, List.map_nil]; first | exact Le.refl _ | exact Le.tup ⟨Le.agg ⟨.refl _, .refl _, Le.slNil 3, trivial⟩, .refl _, trivial⟩ | exact Le.tup ⟨Le.agg ⟨.refl _, .refl _, Le.osl _ _ _, trivial⟩, .refl _, trivial⟩)
        ·
         have h41 : bt s (s.size - 1) = 41 := by (have h9 := hb69; simp at h9; omega)
         have hbr : ¬ (s.size < 2 ∨ ¬ bt s 0 = 40 ∨ ¬ bt s (s.size - 1) = 41) := by omega
         have hps := spA_pcs (s.extract 1 (s.size - 1)) bSt true
         rw [bSt_size, hex] at hps
         refine AWp_skip ?_
         try simp only [thenQ, blockQ, noGotoQ]
         refine y0 _ ?_
         try clear y0 Y0
         refine AWp_seqK fun Y0 y0 => ?_
         refine AWp_region ?_
         iterate 5 (refine aops_chunk 1 fun Q0 q0 => ?_; simp only [↓bO, go_sem, seval, strC, hc0, hl0, hw1, hll, hl1, hle, hcl]; refine q0 _ ?_; clear q0 Q0; simp only [go_sem])
         refine aops_chunk 1 fun Q0 q0 => ?_
         simp only [↓bO, go_sem, seval, strC, hc0, hl0, hw1, hll, hl1, hle, hcl]
         refine APure.call (RSplit_pure (s.extract 1 (s.size - 1)) bSt true (by decide) (by decide) (by omega)) ?_
         try simp only [bS, bA, thenQ, blockQ, noGotoQ]
         refine q0 _ ?_
         clear q0 Q0
         simp only [go_sem]
         simp only [↓bO, go_sem, seval, strC, hc0, hl0, hw1, hll, hl1, hle, hcl]
         refine y0 _ ?_
         try clear y0 Y0
         refine AWp_seqK fun Y0 y0 => ?_
         refine AWp_seqK fun Y1 y1 => ?_
         refine AWp_region ?_
         iterate 2 (refine aops_chunk 1 fun Q0 q0 => ?_; simp only [↓bO, go_sem, seval, strC, hc0, hl0, hw1, hll, hl1, hle, hcl]; refine q0 _ ?_; clear q0 Q0; simp only [go_sem])
         simp only [↓bO, go_sem, seval, strC, hc0, hl0, hw1, hll, hl1, hle, hcl]
         refine y1 _ ?_
         try clear y1 Y1
         refine AWp_cond rfl (fun hb79 => ?_) (fun hb79 => ?_)
         ·
          obtain ⟨a, ha⟩ := oneS_of (l := (spA (s.extract 1 (s.size - 1)) bSt true)) (by have h9 := hb79; simp at h9; omega)
          rw [ha] at hps
          simp only [pcs, bSt_size] at hps
          simp only [ha, List.map_cons, List.map_nil]
          refine AWp_seqK fun Y1 y1 => ?_
          refine AWp_region ?_
          iterate 3 (refine aops_chunk 1 fun Q0 q0 => ?_; simp only [↓bO, go_sem, seval, strC, hc0, hl0, hw1, hll, hl1, hle, hcl]; refine q0 _ ?_; clear q0 Q0; simp only [go_sem])
          refine aops_chunk 1 fun Q0 q0 => ?_
          simp only [↓bO, go_sem, seval, strC, hc0, hl0, hw1, hll, hl1, hle, hcl]
          refine APure.call (ih f (Nat.le_refl f) a (by omega) (by omega)) ?_
          try simp only [bS, bA, thenQ, blockQ, noGotoQ]
          iterate 3 (refine q0 _ ?_; clear q0 Q0; simp only [go_sem]; refine aops_chunk 1 fun Q0 q0 => ?_; simp only [↓bO, go_sem, seval, strC, hc0, hl0, hw1, hll, hl1, hle, hcl])
          refine q0 _ ?_
          clear q0 Q0
          simp only [go_sem]
          simp only [↓bO, go_sem, seval, strC, hc0, hl0, hw1, hll, hl1, hle, hcl]
          refine y1 _ ?_
          try clear y1 Y1
          refine AWp_ret ?_
          try simp only [thenQ, blockQ, noGotoQ, retQ, aRes, tupOf, bS, bA, aLoad, getO, pack, bL, Nat.reduceAdd, Nat.reduceLeDiff, Nat.reduceEqDiff, ↓reduceIte, ti25, tyX, List.length_map, strC, hc0, hl0, hw1, hll, hl1, hle, hcl]
          rw [trF, trStep_br _ hi hb hn h2, trBr_one _ hbr ha]
          first | exact Le.refl _ | exact Le.tup ⟨zT_le, .refl _, trivial⟩ | (simp only [Ty.pcells, List.map_cons, List.map_nil]; first | exact Le.refl _ | exact Le.tup ⟨Le.agg ⟨.refl _, .refl _, Le.slNil 3, trivial⟩, .refl _, trivial⟩ | exact Le.tup ⟨Le.agg ⟨.refl _, .refl _, Le.osl _ _ _, trivial⟩, .refl _, trivial⟩)
         ·
          have h1 : ¬ (spA (s.extract 1 (s.size - 1)) bSt true).length = 1 := by (have h9 := hb79; simp at h9; omega)
          refine AWp_skip ?_
          try simp only [thenQ, blockQ, noGotoQ]
          refine y0 _ ?_
          try clear y0 Y0
          refine AWp_seqK fun Y0 y0 => ?_
          refine AWp_region ?_
          iterate 2 (refine aops_chunk 1 fun Q0 q0 => ?_; simp only [↓bO, go_sem, seval, strC, hc0, hl0, hw1, hll, hl1, hle, hcl]; refine q0 _ ?_; clear q0 Q0; simp only [go_sem])
          simp only [↓bO, go_sem, seval, strC, hc0, hl0, hw1, hll, hl1, hle, hcl]
          refine y0 _ ?_
          try clear y0 Y0
          refine AWp_seqK fun Y0 y0 => ?_
          refine AWp_seqK fun Y1 y1 => ?_
          refine AWp_region ?_
          simp only [↓bO, go_sem, seval, strC, hc0, hl0, hw1, hll, hl1, hle, hcl]
          refine y1 _ ?_
          try clear y1 Y1
          refine AWp_block ?_
          refine AWp_weak (Weak.tokCell 25 3 (id := 1) (t := 25) [.v (.int .i64 5), .v (.int .i64 0), .osl 2 3 []] rfl ⟨.inl (.refl _), .inl (.refl _), .inr ⟨rfl, rfl⟩, trivial⟩) ?_
          simp only [putO, Nat.reduceEqDiff, ↓reduceIte]
          refine AWp_loopM (σ := TrS) (mB 111 7172) (fun w => w.ok f (spA (s.extract 1 (s.size - 1)) bSt true) w.acc.length) (fun w => [(12, .v (.int .i64 (w.acc.length : Int)))]) (fun w => [(1, .cells 25 [.v (.int .i64 5), .v (.int .i64 0), .osl 2 3 (w.acc.map Ty.cells)]), (2, .tok 25 3 w.acc.length)]) (fun w => (spA (s.extract 1 (s.size - 1)) bSt true).length - w.acc.length) ⟨(spA (s.extract 1 (s.size - 1)) bSt true), []⟩ (TrS.start f _) ?_ (fun w hw => ?_)
          ·
           try simp only [maskL, setsL, putsO, putO, mB, List.set_cons_zero, List.set_cons_succ, seval, bL, Int.natCast_zero]
           exact Weak.mk (by simp only [go_sem, Le.refl, Le.any, Le.slNil, Int.natCast_add, Int.cast_ofNat_Int, Int.natCast_one]) (fun _ _ h => h) rfl rfl
          simp only [maskL, setsL, putsO, putO, mB, List.set_cons_zero, List.set_cons_succ, seval]
          have hpl : 3 * (spA (s.extract 1 (s.size - 1)) bSt true).length ≤ s.size + 1 := by (have h9 := pcs_len (spA (s.extract 1 (s.size - 1)) bSt true); omega)
          refine AWp_seqK fun Y1 y1 => ?_
          refine AWp_seqK fun Y2 y2 => ?_
          refine AWp_region ?_
          iterate 3 (refine aops_chunk 1 fun Q0 q0 => ?_; simp only [↓bO, go_sem, seval, strC, hc0, List.map_append, List.length_append, hl0, hw1, hll, hl1, hle, hcl]; refine q0 _ ?_; clear q0 Q0; simp only [go_sem])
          simp only [↓bO, go_sem, seval, strC, hc0, List.map_append, List.length_append, hl0, hw1, hll, hl1, hle, hcl]
          refine y2 _ ?_
          try clear y2 Y2
          refine AWp_cond rfl (fun hb90 => ?_) (fun hb90 => ?_)
          ·
           have hk : w.acc.length < (spA (s.extract 1 (s.size - 1)) bSt true).length := by (have h9 := hb90; simp at h9; omega)
           obtain ⟨x, hx⟩ : ∃ x, (spA (s.extract 1 (s.size - 1)) bSt true)[w.acc.length]? = some x := ⟨_, List.getElem?_eq_getElem hk⟩
           have hxm := pcs_mem (g := bSt) (List.mem_of_getElem? hx)
           rw [bSt_size] at hxm
           have hw3 : IntKind.i64.wrap ((w.acc.length : Int) + 1) = ((w.acc.length + 1 : Nat) : Int) := by (rw [wrap_in (by omega) (by omega)]; omega)
           have hb1 : (w.acc.length + 1) * 40 ≤ 140737488355328 := by omega
           have hb2 : w.acc.length + 1 ≤ maxLen := by (simp only [maxLen]; omega)
           refine AWp_skip ?_
           try simp only [thenQ, blockQ, noGotoQ]
           refine y1 _ ?_
           try clear y1 Y1
           refine AWp_seqK fun Y1 y1 => ?_
           refine AWp_block ?_
           refine AWp_seqK fun Y2 y2 => ?_
           refine AWp_region ?_
           iterate 4 (refine aops_chunk 1 fun Q0 q0 => ?_; simp only [↓bO, go_sem, seval, strC, hc0, List.map_append, List.length_append, hl0, hw1, hll, hl1, hle, hcl, hk, strGet hx, hw3, hb1, hb2]; refine q0 _ ?_; clear q0 Q0; simp only [go_sem])
           refine aops_chunk 1 fun Q0 q0 => ?_
           simp only [↓bO, go_sem, seval, strC, hc0, List.map_append, List.length_append, hl0, hw1, hll, hl1, hle, hcl, hk, strGet hx, hw3, hb1, hb2]
           refine APure.call (ih f (Nat.le_refl f) x (by omega) (by omega)) ?_
           try simp only [bS, bA, thenQ, blockQ, noGotoQ]
           iterate 5 (refine q0 _ ?_; clear q0 Q0; simp only [go_sem]; refine aops_chunk 1 fun Q0 q0 => ?_; simp only [↓bO, go_sem, seval, strC, hc0, List.map_append, List.length_append, hl0, hw1, hll, hl1, hle, hcl, hk, strGet hx, hw3, hb1, hb2])
           refine q0 _ ?_
           clear q0 Q0
           simp only [go_sem]
           simp only [↓bO, go_sem, seval, strC, hc0, List.map_append, List.length_append, hl0, hw1, hll, hl1, hle, hcl, hk, strGet hx, hw3, hb1, hb2]
           refine y2 _ ?_
           try clear y2 Y2
           refine AWp_seqK fun Y2 y2 => ?_
           refine AWp_seqK fun Y3 y3 => ?_
           refine AWp_region ?_
           refine aops_chunk 1 fun Q0 q0 => ?_
           simp only [↓bO, go_sem, seval, strC, hc0, List.map_append, List.length_append, hl0, hw1, hll, hl1, hle, hcl, hk, strGet hx, hw3, hb1, hb2]
           refine q0 _ ?_
           clear q0 Q0
           simp only [go_sem]
           simp only [↓bO, go_sem, seval, strC, hc0, List.map_append, List.length_append, hl0, hw1, hll, hl1, hle, hcl, hk, strGet hx, hw3, hb1, hb2]
           refine y3 _ ?_
           try clear y3 Y3
           refine AWp_cond rfl (fun hb102 => ?_) (fun hb102 => ?_)
           ·
            have hbad : (trF f x).2 = false := by simpa using hb102
            refine AWp_seqK fun Y3 y3 => ?_
            refine AWp_region ?_
            iterate 2 (refine aops_chunk 1 fun Q0 q0 => ?_; simp only [↓bO, go_sem, seval, strC, hc0, List.map_append, List.length_append, hl0, hw1, hll, hl1, hle, hcl, hk, strGet hx, hw3, hb1, hb2]; refine q0 _ ?_; clear q0 Q0; simp only [go_sem])
            simp only [↓bO, go_sem, seval, strC, hc0, List.map_append, List.length_append, hl0, hw1, hll, hl1, hle, hcl, hk, strGet hx, hw3, hb1, hb2]
            refine y3 _ ?_
            try clear y3 Y3
            refine AWp_ret ?_
            try simp only [thenQ, blockQ, noGotoQ, retQ, aRes, tupOf, bS, bA, aLoad, getO, pack, bL, Nat.reduceAdd, Nat.reduceLeDiff, Nat.reduceEqDiff, ↓reduceIte, ti25, tyX, List.length_map, strC, hc0, List.map_append, List.length_append, hl0, hw1, hll, hl1, hle, hcl, hk, strGet hx, hw3, hb1, hb2]
            rw [trF, trStep_br _ hi hb hn h2, trBr_more _ hbr h1, hw.bad hx hbad]
            first | exact Le.refl _ | exact Le.tup ⟨zT_le, .refl _, trivial⟩ | (simp only [Ty.pcells, List.map_cons, List.map_nil]; first | exact Le.refl _ | exact Le.tup ⟨Le.agg ⟨.refl _, .refl _, Le.slNil 3, trivial⟩, .refl _, trivial⟩ | exact Le.tup ⟨Le.agg ⟨.refl _, .refl _, Le.osl _ _ _, trivial⟩, .refl _, trivial⟩)
           ·
            have hgood : (trF f x).2 = true := by simpa using hb102
            refine AWp_skip ?_
            try simp only [thenQ, blockQ, noGotoQ]
            refine y2 _ ?_
            try clear y2 Y2
            refine AWp_region ?_
            iterate 3 (refine aops_chunk 1 fun Q0 q0 => ?_; simp only [↓bO, go_sem, seval, strC, hc0, List.map_append, List.length_append, hl0, hw1, hll, hl1, hle, hcl, hk, strGet hx, hw3, hb1, hb2]; refine q0 _ ?_; clear q0 Q0; simp only [go_sem])
            refine aops_chunk 1 fun Q0 q0 => ?_
            simp only [↓bO, go_sem, seval, ↓bs1_1, ↓bs1_2, ↓bs1_3, ↓bs1_4, ↓bs1_5, ↓bs1_6, ↓bs1_7, ↓bs1_8, ↓bs1_9, ↓bs1_10, ↓bs1_11, ↓bs1_12, strC, hc0, List.map_append, List.length_append, hl0, hw1, hll, hl1, hle, hcl, hk, strGet hx, hw3, hb1, hb2]
            iterate 2 (refine q0 _ ?_; clear q0 Q0; simp only [go_sem]; refine aops_chunk 1 fun Q0 q0 => ?_; simp only [↓bO, go_sem, seval, strC, hc0, List.map_append, List.length_append, hl0, hw1, hll, hl1, hle, hcl, hk, strGet hx, hw3, hb1, hb2])
            refine q0 _ ?_
            clear q0 Q0
            simp only [go_sem]
            simp only [↓bO, go_sem, seval, strC, hc0, List.map_append, List.length_append, hl0, hw1, hll, hl1, hle, hcl, hk, strGet hx, hw3, hb1, hb2]
            refine y1 _ ?_
            try clear y1 Y1
            refine AWp_region ?_
            iterate 2 (refine aops_chunk 1 fun Q0 q0 => ?_; simp only [↓bO, go_sem, seval, strC, hc0, List.map_append, List.length_append, hl0, hw1, hll, hl1, hle, hcl, hk, strGet hx, hw3, hb1, hb2]; refine q0 _ ?_; clear q0 Q0; simp only [go_sem])
            simp only [↓bO, go_sem, seval, strC, hc0, List.map_append, List.length_append, hl0, hw1, hll, hl1, hle, hcl, hk, strGet hx, hw3, hb1, hb2]
            refine ⟨⟨w.l.tail, w.acc ++ [(trF f x).1]⟩, hw.next hx hgood, (by simp only [List.length_append, List.length_cons, List.length_nil]; omega), ?_⟩
            simp only [maskL, setsL, putsO, putO, mB, List.set_cons_zero, List.set_cons_succ, seval, List.map_append, bL, List.length_append, hl0, hw1, hll, hl1, hle, hcl, hk, strGet hx, hw3, hb1, hb2]
            first | (refine Weak.drops 1 3 rfl rfl (by simp only; omega) (by simp only; omega) ?_ ?_ ?_) | (refine Weak.drops 0 3 rfl rfl (by simp only; omega) (by simp only; omega) ?_ ?_ ?_)
            · simp only [go_sem, Le.refl, Le.any, Int.natCast_add, Int.cast_ofNat_Int, Int.natCast_one]
            · simp only [UndL, UndOs, Ob.Und, and_true, true_and, and_self, Und.v, Und.any, Und.ptr, Und.map, Nat.reduceLT, Nat.zero_lt_succ, Und.tys, Und.tyAgg, Und.oslTys, Und.oslTys1, Und.clo0, Und.ty, und_slS]
            · simp only [UndL, UndOs, Ob.Und, and_true, true_and, and_self, Und.v, Und.any, Und.ptr, Und.map, Nat.reduceLT, Nat.zero_lt_succ, Und.tys, Und.tyAgg, Und.oslTys, Und.oslTys1, Und.clo0, Und.ty, und_slS]
          ·
           have hk : ¬ w.acc.length < (spA (s.extract 1 (s.size - 1)) bSt true).length := by (have h9 := hb90; simp at h9; omega)
           refine AWp_exit ?_
           simp only [thenQ, blockQ, noGotoQ, bA, Nat.reduceEqDiff, ↓reduceIte]
           refine y0 _ ?_
           try clear y0 Y0
           refine AWp_seqK fun Y0 y0 => ?_
           refine AWp_region ?_
           iterate 2 (refine aops_chunk 1 fun Q0 q0 => ?_; simp only [↓bO, go_sem, seval, strC, hc0, hl0, hw1, hll, hl1, hle, hcl]; refine q0 _ ?_; clear q0 Q0; simp only [go_sem])
           simp only [↓bO, go_sem, seval, strC, hc0, hl0, hw1, hll, hl1, hle, hcl]
           refine y0 _ ?_
           try clear y0 Y0
           refine AWp_ret ?_
           try simp only [thenQ, blockQ, noGotoQ, retQ, aRes, tupOf, bS, bA, aLoad, getO, pack, bL, Nat.reduceAdd, Nat.reduceLeDiff, Nat.reduceEqDiff, ↓reduceIte, ti25, tyX, List.length_map, strC, hc0, hl0, hw1, hll, hl1, hle, hcl]
           rw [trF, trStep_br _ hi hb hn h2, trBr_more _ hbr h1, hw.stop hk]
           first | exact Le.refl _ | exact Le.tup ⟨zT_le, .refl _, trivial⟩ | (simp only [Ty.pcells, List.map_cons, List.map_nil]; first | exact Le.refl _ | exact Le.tup ⟨Le.agg ⟨.refl _, .refl _, Le.slNil 3, trivial⟩, .refl _, trivial⟩ | exact Le.tup ⟨Le.agg ⟨.refl _, .refl _, Le.osl _ _ _, trivial⟩, .refl _, trivial⟩)
theorem rtype_c : ∀ f, TrOk f := by
  intro f
  induction f using Nat.strongRecOn with
  | _ f ih =>
    intro s hf hs
    match f, ih, hf with
    | 0, _, hf => omega
    | f + 1, ih, hf => exact rtype_s f (fun g hg => ih g (by omega)) s hf hs
def trParse (s : ByteArray) : Ty × Bool := if (trF (s.size + 1) s).2 = true ∧ (trF (s.size + 1) s).1.right = true ∧ (trF (s.size + 1) s).1.tx = s then ((trF (s.size + 1) s).1, true) else (.mk 0 0 [], false)
theorem trParse_no {s : ByteArray} (h : ¬ ((trF (s.size + 1) s).2 = true ∧ (trF (s.size + 1) s).1.right = true ∧ (trF (s.size + 1) s).1.tx = s)) : trParse s = (.mk 0 0 [], false) := if_neg h
theorem trParse_yes {s : ByteArray} (h : (trF (s.size + 1) s).2 = true ∧ (trF (s.size + 1) s).1.right = true ∧ (trF (s.size + 1) s).1.tx = s) : trParse s = ((trF (s.size + 1) s).1, true) := if_pos h
theorem parse_alike (s : ByteArray) : (pwParse s).1 = (trParse s).1 ∧ ((pwParse s).2 = 0 ↔ (trParse s).2 = true) ∧ ((trParse s).2 = true → (pwParse s).1.ptx = s) ∧ ((trParse s).2 = false → (pwParse s).2 = 3) := by
  by_cases h : ∃ T : Ty, T.right = true ∧ T.tx = s
  · obtain ⟨T, hr, rfl⟩ := h
    have h1 := pw_tx hr
    have h2 := tr_tx hr
    have g1 := pwParse_yes (s := T.tx) (by rw [h1]; exact ⟨rfl, rfl, ptx_yes hr⟩)
    have g2 := trParse_yes (s := T.tx) (by rw [h2]; exact ⟨rfl, hr, rfl⟩)
    rw [g1, g2, h1, h2]
    exact ⟨rfl, by simp, fun _ => ptx_yes hr, fun h => by cases h⟩
  · have g2 := trParse_no (s := s) fun h9 => h ⟨_, h9.2.1, h9.2.2⟩
    have g1 := pwParse_no (s := s) fun ⟨a1, a2, a3⟩ => by
      by_cases hr : (pwF (s.size + 1) s).1.right = true
      · rw [ptx_yes hr] at a3; exact h ⟨_, hr, a3⟩
      · rw [ptx_no (by simpa using hr)] at a3
        rw [← a3] at a1
        revert a1
        decide +kernel
    rw [g1, g2]
    exact ⟨rfl, by simp, fun h => by (simp at h), fun _ => rfl⟩
theorem RParse_pure (s : ByteArray) (hs : s.size ≤ 524287) : APure Tryd.prog 7 [.v (.string s)] (.tup [.agg (trParse s).1.cells, .v (.bool (trParse s).2)]) := by
  refine APure.mkL (.cons (.v _) .nil) (.tup (.cons (Ty.dataAgg _) (.cons (.v _) .nil))) ?_
  refine ACalls_intro Tryd.func7 (by kernel_rfl) rfl (by rw [Tryd.ntmps7]; simp) (fun hm => ?_)
  simp only [Tryd.ntmps7, Tryd.results7, List.length_cons, List.length_nil, Nat.reduceAdd, Nat.reduceSub, List.replicate_succ, List.replicate_zero, List.cons_append, List.nil_append]
  have hcb : (trF (s.size + 1) s).1.cnt ≤ 2 * s.size + 1 := trF_bnd (s.size + 1) s
  refine AWp_seqK fun Y0 y0 => ?_
  refine AWp_region ?_
  refine aops_chunk 1 fun Q0 q0 => ?_
  simp only [↓bO, go_sem, seval, strC]
  refine q0 _ ?_
  clear q0 Q0
  simp only [go_sem]
  simp only [↓bO, go_sem, seval, strC]
  refine y0 _ ?_
  try clear y0 Y0
  refine AWp_seqK fun Y0 y0 => ?_
  refine AWp_region ?_
  refine aops_chunk 1 fun Q0 q0 => ?_
  simp only [↓bO, go_sem, seval, strC]
  refine q0 _ ?_
  clear q0 Q0
  simp only [go_sem]
  refine aops_chunk 1 fun Q0 q0 => ?_
  simp only [↓bO, go_sem, seval, strC]
  refine APure.call (rtype_c (s.size + 1) s (by omega) (by omega)) ?_
  try simp only [bS, bA, thenQ, blockQ, noGotoQ]
  iterate 5 (refine q0 _ ?_; clear q0 Q0; simp only [go_sem]; refine aops_chunk 1 fun Q0 q0 => ?_; simp only [↓bO, go_sem, seval, strC])
  refine q0 _ ?_
  clear q0 Q0
  simp only [go_sem]
  simp only [↓bO, go_sem, seval, strC]
  refine y0 _ ?_
  try clear y0 Y0
  refine AWp_seqK fun Y0 y0 => ?_
  refine AWp_seqK fun Y1 y1 => ?_
  refine AWp_region ?_
  iterate 3 (refine aops_chunk 1 fun Q0 q0 => ?_; simp only [↓bO, go_sem, seval, strC]; refine q0 _ ?_; clear q0 Q0; simp only [go_sem])
  refine aops_case 13 rfl (fun hc13 => ?_) (fun hc13 => ?_)
  ·
   simp only [List.set_cons_zero, List.set_cons_succ]
   have hP := trParse_no (s := s) (fun h => by (have h9 := h.1; have h8 := hc13; simp [h9] at h8))
   iterate 9 (refine aops_chunk 1 fun Q0 q0 => ?_; simp only [↓bO, go_sem, seval, strC]; refine q0 _ ?_; clear q0 Q0; simp only [go_sem])
   simp only [↓bO, go_sem, seval, strC]
   refine y1 _ ?_
   try clear y1 Y1
   refine AWp_cond (b := true) (by first | exact rfl | exact congrArg (fun b => AV.v (.bool b)) hb23) (fun _ => ?_) (fun h => (by cases h))
   refine AWp_seqK fun Y1 y1 => ?_
   refine AWp_region ?_
   iterate 2 (refine aops_chunk 1 fun Q0 q0 => ?_; simp only [↓bO, go_sem, seval, strC]; refine q0 _ ?_; clear q0 Q0; simp only [go_sem])
   simp only [↓bO, go_sem, seval, strC]
   refine y1 _ ?_
   try clear y1 Y1
   refine AWp_ret ?_
   try simp only [thenQ, blockQ, noGotoQ, retQ, aRes, tupOf, bS, bA, aLoad, getO, pack, bL, Nat.reduceAdd, Nat.reduceLeDiff, Nat.reduceEqDiff, ↓reduceIte, ti25, tyX, List.length_map, strC]
   rw [hP]
   first | exact Le.tup ⟨zT_le, .refl _, trivial⟩ | exact Le.refl _
  ·
   simp only [List.set_cons_zero, List.set_cons_succ]
   have hg : (trF (s.size + 1) s).2 = true := by simpa using hc13
   refine aops_chunk 1 fun Q0 q0 => ?_
   simp only [↓bO, go_sem, seval, strC]
   refine q0 _ ?_
   clear q0 Q0
   simp only [go_sem]
   refine aops_chunk 1 fun Q0 q0 => ?_
   simp only [↓bO, go_sem, seval, strC]
   refine APure.call (RefRight_pure (trF (s.size + 1) s).1) ?_
   try simp only [bS, bA, thenQ, blockQ, noGotoQ]
   iterate 3 (refine q0 _ ?_; clear q0 Q0; simp only [go_sem]; refine aops_chunk 1 fun Q0 q0 => ?_; simp only [↓bO, go_sem, seval, strC])
   refine q0 _ ?_
   clear q0 Q0
   simp only [go_sem]
   refine aops_case 18 rfl (fun hc18 => ?_) (fun hc18 => ?_)
   ·
    simp only [List.set_cons_zero, List.set_cons_succ]
    have hP : trParse s = (.mk 0 0 [], false) := by (first | exact hP | exact trParse_no (s := s) (fun h => by (have h9 := h.2.1; have h8 := hc18; simp [h9] at h8)))
    iterate 4 (refine aops_chunk 1 fun Q0 q0 => ?_; simp only [↓bO, go_sem, seval, strC]; refine q0 _ ?_; clear q0 Q0; simp only [go_sem])
    simp only [↓bO, go_sem, seval, strC]
    refine y1 _ ?_
    try clear y1 Y1
    refine AWp_cond (b := true) (by first | exact rfl | exact congrArg (fun b => AV.v (.bool b)) hb23) (fun _ => ?_) (fun h => (by cases h))
    refine AWp_seqK fun Y1 y1 => ?_
    refine AWp_region ?_
    iterate 2 (refine aops_chunk 1 fun Q0 q0 => ?_; simp only [↓bO, go_sem, seval, strC]; refine q0 _ ?_; clear q0 Q0; simp only [go_sem])
    simp only [↓bO, go_sem, seval, strC]
    refine y1 _ ?_
    try clear y1 Y1
    refine AWp_ret ?_
    try simp only [thenQ, blockQ, noGotoQ, retQ, aRes, tupOf, bS, bA, aLoad, getO, pack, bL, Nat.reduceAdd, Nat.reduceLeDiff, Nat.reduceEqDiff, ↓reduceIte, ti25, tyX, List.length_map, strC]
    rw [hP]
    first | exact Le.tup ⟨zT_le, .refl _, trivial⟩ | exact Le.refl _
   ·
    simp only [List.set_cons_zero, List.set_cons_succ]
    have hr : (trF (s.size + 1) s).1.right = true := by simpa using hc18
    refine aops_chunk 1 fun Q0 q0 => ?_
    simp only [↓bO, go_sem, seval, strC]
    refine q0 _ ?_
    clear q0 Q0
    simp only [go_sem]
    refine aops_chunk 1 fun Q0 q0 => ?_
    simp only [↓bO, go_sem, seval, strC]
    refine APure.call (RText_pure (trF (s.size + 1) s).1 hr (by omega)) ?_
    try simp only [bS, bA, thenQ, blockQ, noGotoQ]
    iterate 2 (refine q0 _ ?_; clear q0 Q0; simp only [go_sem]; refine aops_chunk 1 fun Q0 q0 => ?_; simp only [↓bO, go_sem, seval, strC])
    refine q0 _ ?_
    clear q0 Q0
    simp only [go_sem]
    simp only [↓bO, go_sem, seval, strC]
    refine y1 _ ?_
    try clear y1 Y1
    refine AWp_cond rfl (fun hb23 => ?_) (fun hb23 => ?_)
    ·
     have hP : trParse s = (.mk 0 0 [], false) := by (first | exact hP | exact trParse_no (s := s) (fun h => eqS_no (a := (trF (s.size + 1) s).1.tx) (b := s) (eqS_ne hb23) h.2.2))
     refine AWp_seqK fun Y1 y1 => ?_
     refine AWp_region ?_
     iterate 2 (refine aops_chunk 1 fun Q0 q0 => ?_; simp only [↓bO, go_sem, seval, strC]; refine q0 _ ?_; clear q0 Q0; simp only [go_sem])
     simp only [↓bO, go_sem, seval, strC]
     refine y1 _ ?_
     try clear y1 Y1
     refine AWp_ret ?_
     try simp only [thenQ, blockQ, noGotoQ, retQ, aRes, tupOf, bS, bA, aLoad, getO, pack, bL, Nat.reduceAdd, Nat.reduceLeDiff, Nat.reduceEqDiff, ↓reduceIte, ti25, tyX, List.length_map, strC]
     rw [hP]
     first | exact Le.tup ⟨zT_le, .refl _, trivial⟩ | exact Le.refl _
    ·
     have hp : (trF (s.size + 1) s).1.tx = s := eqS_iff.1 (eqS_nn hb23)
     have hP := trParse_yes ⟨hg, hr, hp⟩
     refine AWp_skip ?_
     try simp only [thenQ, blockQ, noGotoQ]
     refine y0 _ ?_
     try clear y0 Y0
     refine AWp_seqK fun Y0 y0 => ?_
     refine AWp_region ?_
     iterate 2 (refine aops_chunk 1 fun Q0 q0 => ?_; simp only [↓bO, go_sem, seval, strC]; refine q0 _ ?_; clear q0 Q0; simp only [go_sem])
     simp only [↓bO, go_sem, seval, strC]
     refine y0 _ ?_
     try clear y0 Y0
     refine AWp_ret ?_
     try simp only [thenQ, blockQ, noGotoQ, retQ, aRes, tupOf, bS, bA, aLoad, getO, pack, bL, Nat.reduceAdd, Nat.reduceLeDiff, Nat.reduceEqDiff, ↓reduceIte, ti25, tyX, List.length_map, strC]
     rw [hP]
     first | exact Le.tup ⟨zT_le, .refl _, trivial⟩ | exact Le.refl _
theorem pwParse_cnt (s : ByteArray) : (pwParse s).1.cnt ≤ 2 * s.size + 1 := by
  unfold pwParse
  split
  · have := pwF_bnd (s.size + 1) s
    unfold PwB at this; dsimp only; omega
  · dsimp only; rw [cnt_mk]; simp only [Ty.cntL]; omega
theorem sigp_w (s : ByteArray) (T : Ty) (e : Int) (ok : Bool) (hp : s.size ≤ 524287 → pwParse s = (T, e)) (hr : s.size ≤ 524287 → trParse s = (T, ok)) (hc : s.size ≤ 524287 → T.cnt ≤ 1048576) (hk : (ok = true ∧ e = 0 ∧ T.ptx = s) ∨ (ok = false ∧ e = 3)) : APure Tryd.prog 3 [.v (.string s)] (.v (.bool true)) := by
  refine APure.mkL (.cons (.v _) .nil) (.v _) ?_
  refine ACalls_intro Tryd.func3 (by kernel_rfl) rfl (by rw [Tryd.ntmps3]; simp) (fun hm => ?_)
  simp only [Tryd.ntmps3, Tryd.results3, List.length_cons, List.length_nil, Nat.reduceAdd, Nat.reduceSub, List.replicate_succ, List.replicate_zero, List.cons_append, List.nil_append]
  refine AWp_seqK fun Y0 y0 => ?_
  refine AWp_region ?_
  simp only [↓bO, go_sem, seval]
  refine y0 _ ?_
  try clear y0 Y0
  refine AWp_seqK fun Y0 y0 => ?_
  refine AWp_seqK fun Y1 y1 => ?_
  refine AWp_region ?_
  iterate 2 (refine aops_chunk 1 fun Q0 q0 => ?_; simp only [↓bO, go_sem, seval]; refine q0 _ ?_; clear q0 Q0; simp only [go_sem])
  simp only [↓bO, go_sem, seval]
  refine y1 _ ?_
  try clear y1 Y1
  refine AWp_cond rfl (fun hb9 => ?_) (fun hb9 => ?_)
  ·
   refine AWp_seqK fun Y1 y1 => ?_
   refine AWp_region ?_
   refine aops_chunk 1 fun Q0 q0 => ?_
   simp only [↓bO, go_sem, seval]
   refine APure.call (awake4_pure) ?_
   try simp only [bS, bA, thenQ, blockQ, noGotoQ]
   refine q0 _ ?_
   clear q0 Q0
   simp only [go_sem]
   simp only [↓bO, go_sem, seval]
   refine y1 _ ?_
   try clear y1 Y1
   refine AWp_ret ?_
   try simp only [thenQ, blockQ, noGotoQ, retQ, aRes, tupOf, bS, bA]
   first | exact Le.refl _ | (refine Le.of_eq (congrArg (fun b => AV.v (.bool b)) ?_); simp_all [Ty.same_refl]; done)
  ·
   have hs : s.size ≤ 300 := by (have h9 := hb9; simp at h9; omega)
   refine AWp_skip ?_
   try simp only [thenQ, blockQ, noGotoQ]
   refine y0 _ ?_
   try clear y0 Y0
   refine AWp_seqK fun Y0 y0 => ?_
   refine AWp_region ?_
   refine aops_chunk 1 fun Q0 q0 => ?_
   simp only [↓bO, go_sem, seval]
   refine q0 _ ?_
   clear q0 Q0
   simp only [go_sem]
   refine aops_chunk 1 fun Q0 q0 => ?_
   simp only [↓bO, go_sem, seval]
   refine APure.call (by have h9 := SParse_pure s (by omega); rw [hp (by omega)] at h9; exact h9) ?_
   try simp only [bS, bA, thenQ, blockQ, noGotoQ]
   iterate 5 (refine q0 _ ?_; clear q0 Q0; simp only [go_sem]; refine aops_chunk 1 fun Q0 q0 => ?_; simp only [↓bO, go_sem, seval])
   refine q0 _ ?_
   clear q0 Q0
   simp only [go_sem]
   simp only [↓bO, go_sem, seval]
   refine y0 _ ?_
   try clear y0 Y0
   refine AWp_seqK fun Y0 y0 => ?_
   refine AWp_region ?_
   refine aops_chunk 1 fun Q0 q0 => ?_
   simp only [↓bO, go_sem, seval]
   refine q0 _ ?_
   clear q0 Q0
   simp only [go_sem]
   refine aops_chunk 1 fun Q0 q0 => ?_
   simp only [↓bO, go_sem, seval]
   refine APure.call (by have h9 := RParse_pure s (by omega); rw [hr (by omega)] at h9; exact h9) ?_
   try simp only [bS, bA, thenQ, blockQ, noGotoQ]
   iterate 5 (refine q0 _ ?_; clear q0 Q0; simp only [go_sem]; refine aops_chunk 1 fun Q0 q0 => ?_; simp only [↓bO, go_sem, seval])
   refine q0 _ ?_
   clear q0 Q0
   simp only [go_sem]
   simp only [↓bO, go_sem, seval]
   refine y0 _ ?_
   try clear y0 Y0
   refine AWp_seqK fun Y0 y0 => ?_
   refine AWp_region ?_
   iterate 5 (refine aops_chunk 1 fun Q0 q0 => ?_; simp only [↓bO, go_sem, seval]; refine q0 _ ?_; clear q0 Q0; simp only [go_sem])
   refine aops_case 25 rfl (fun hc25 => ?_) (fun hc25 => ?_)
   ·
    simp only [List.set_cons_zero, List.set_cons_succ]
    iterate 2 (refine aops_chunk 1 fun Q0 q0 => ?_; simp only [↓bO, go_sem, seval]; refine q0 _ ?_; clear q0 Q0; simp only [go_sem])
    refine aops_case 27 rfl (fun hc27 => ?_) (fun hc27 => ?_)
    ·
     simp only [List.set_cons_zero, List.set_cons_succ]
     have hok : ok = true := by simpa using hc27
     iterate 7 (refine aops_chunk 1 fun Q0 q0 => ?_; simp only [↓bO, go_sem, seval]; refine q0 _ ?_; clear q0 Q0; simp only [go_sem])
     refine aops_chunk 1 fun Q0 q0 => ?_
     simp only [↓bO, go_sem, seval]
     refine APure.call (Same_pure T T) ?_
     try simp only [bS, bA, thenQ, blockQ, noGotoQ]
     iterate 2 (refine q0 _ ?_; clear q0 Q0; simp only [go_sem]; refine aops_chunk 1 fun Q0 q0 => ?_; simp only [↓bO, go_sem, seval])
     refine q0 _ ?_
     clear q0 Q0
     simp only [go_sem]
     refine aops_case 37 rfl (fun hc37 => ?_) (fun hc37 => ?_)
     ·
      simp only [List.set_cons_zero, List.set_cons_succ]
      iterate 3 (refine aops_chunk 1 fun Q0 q0 => ?_; simp only [↓bO, go_sem, seval]; refine q0 _ ?_; clear q0 Q0; simp only [go_sem])
      refine aops_case 40 rfl (fun hc40 => ?_) (fun hc40 => ?_)
      ·
       simp only [List.set_cons_zero, List.set_cons_succ]
       have hok2 : ok = false := by simpa using hc40
       iterate 7 (refine aops_chunk 1 fun Q0 q0 => ?_; simp only [↓bO, go_sem, seval]; refine q0 _ ?_; clear q0 Q0; simp only [go_sem])
       refine aops_chunk 1 fun Q0 q0 => ?_
       simp only [↓bO, go_sem, seval]
       refine APure.call (awake4_pure) ?_
       try simp only [bS, bA, thenQ, blockQ, noGotoQ]
       refine q0 _ ?_
       clear q0 Q0
       simp only [go_sem]
       refine aops_chunk 1 fun Q0 q0 => ?_
       simp only [↓bO, go_sem, seval]
       refine q0 _ ?_
       clear q0 Q0
       simp only [go_sem]
       simp only [↓bO, go_sem, seval]
       refine y0 _ ?_
       try clear y0 Y0
       refine AWp_ret ?_
       try simp only [thenQ, blockQ, noGotoQ, retQ, aRes, tupOf, bS, bA]
       first | exact Le.refl _ | (refine Le.of_eq (congrArg (fun b => AV.v (.bool b)) ?_); simp_all [Ty.same_refl]; done)
      ·
       simp only [List.set_cons_zero, List.set_cons_succ]
       have hok2 : ok = true := by simpa using hc40
       refine aops_chunk 1 fun Q0 q0 => ?_
       simp only [↓bO, go_sem, seval]
       refine q0 _ ?_
       clear q0 Q0
       simp only [go_sem]
       refine aops_chunk 1 fun Q0 q0 => ?_
       simp only [↓bO, go_sem, seval]
       refine APure.call (PrintR_pure T (hc (by omega))) ?_
       try simp only [bS, bA, thenQ, blockQ, noGotoQ]
       iterate 5 (refine q0 _ ?_; clear q0 Q0; simp only [go_sem]; refine aops_chunk 1 fun Q0 q0 => ?_; simp only [↓bO, go_sem, seval])
       refine q0 _ ?_
       clear q0 Q0
       simp only [go_sem]
       refine aops_case 47 rfl (fun hc47 => ?_) (fun hc47 => ?_)
       ·
        simp only [List.set_cons_zero, List.set_cons_succ]
        refine aops_chunk 1 fun Q0 q0 => ?_
        simp only [↓bO, go_sem, seval]
        refine APure.call (awake4_pure) ?_
        try simp only [bS, bA, thenQ, blockQ, noGotoQ]
        refine q0 _ ?_
        clear q0 Q0
        simp only [go_sem]
        refine aops_chunk 1 fun Q0 q0 => ?_
        simp only [↓bO, go_sem, seval]
        refine q0 _ ?_
        clear q0 Q0
        simp only [go_sem]
        simp only [↓bO, go_sem, seval]
        refine y0 _ ?_
        try clear y0 Y0
        refine AWp_ret ?_
        try simp only [thenQ, blockQ, noGotoQ, retQ, aRes, tupOf, bS, bA]
        first | exact Le.refl _ | (refine Le.of_eq (congrArg (fun b => AV.v (.bool b)) ?_); simp_all [Ty.same_refl]; done)
       ·
        simp only [List.set_cons_zero, List.set_cons_succ]
        exfalso
        have h9 := hc47
        rcases hk with ⟨k1, k2, k3⟩ | ⟨k1, k2⟩ <;> simp_all [Ty.same_refl]
     ·
      simp only [List.set_cons_zero, List.set_cons_succ]
      exfalso
      have h9 := hc37
      rcases hk with ⟨k1, k2, k3⟩ | ⟨k1, k2⟩ <;> simp_all [Ty.same_refl]
    ·
     simp only [List.set_cons_zero, List.set_cons_succ]
     have hok : ok = false := by simpa using hc27
     iterate 5 (refine aops_chunk 1 fun Q0 q0 => ?_; simp only [↓bO, go_sem, seval]; refine q0 _ ?_; clear q0 Q0; simp only [go_sem])
     refine aops_case 32 rfl (fun hc32 => ?_) (fun hc32 => ?_)
     ·
      simp only [List.set_cons_zero, List.set_cons_succ]
      iterate 2 (refine aops_chunk 1 fun Q0 q0 => ?_; simp only [↓bO, go_sem, seval]; refine q0 _ ?_; clear q0 Q0; simp only [go_sem])
      refine aops_chunk 1 fun Q0 q0 => ?_
      simp only [↓bO, go_sem, seval]
      refine APure.call (Same_pure T T) ?_
      try simp only [bS, bA, thenQ, blockQ, noGotoQ]
      iterate 2 (refine q0 _ ?_; clear q0 Q0; simp only [go_sem]; refine aops_chunk 1 fun Q0 q0 => ?_; simp only [↓bO, go_sem, seval])
      refine q0 _ ?_
      clear q0 Q0
      simp only [go_sem]
      refine aops_case 37 rfl (fun hc37 => ?_) (fun hc37 => ?_)
      ·
       simp only [List.set_cons_zero, List.set_cons_succ]
       iterate 3 (refine aops_chunk 1 fun Q0 q0 => ?_; simp only [↓bO, go_sem, seval]; refine q0 _ ?_; clear q0 Q0; simp only [go_sem])
       refine aops_case 40 rfl (fun hc40 => ?_) (fun hc40 => ?_)
       ·
        simp only [List.set_cons_zero, List.set_cons_succ]
        have hok2 : ok = false := by simpa using hc40
        iterate 7 (refine aops_chunk 1 fun Q0 q0 => ?_; simp only [↓bO, go_sem, seval]; refine q0 _ ?_; clear q0 Q0; simp only [go_sem])
        refine aops_chunk 1 fun Q0 q0 => ?_
        simp only [↓bO, go_sem, seval]
        refine APure.call (awake4_pure) ?_
        try simp only [bS, bA, thenQ, blockQ, noGotoQ]
        refine q0 _ ?_
        clear q0 Q0
        simp only [go_sem]
        refine aops_chunk 1 fun Q0 q0 => ?_
        simp only [↓bO, go_sem, seval]
        refine q0 _ ?_
        clear q0 Q0
        simp only [go_sem]
        simp only [↓bO, go_sem, seval]
        refine y0 _ ?_
        try clear y0 Y0
        refine AWp_ret ?_
        try simp only [thenQ, blockQ, noGotoQ, retQ, aRes, tupOf, bS, bA]
        first | exact Le.refl _ | (refine Le.of_eq (congrArg (fun b => AV.v (.bool b)) ?_); simp_all [Ty.same_refl]; done)
       ·
        simp only [List.set_cons_zero, List.set_cons_succ]
        have hok2 : ok = true := by simpa using hc40
        refine aops_chunk 1 fun Q0 q0 => ?_
        simp only [↓bO, go_sem, seval]
        refine q0 _ ?_
        clear q0 Q0
        simp only [go_sem]
        refine aops_chunk 1 fun Q0 q0 => ?_
        simp only [↓bO, go_sem, seval]
        refine APure.call (PrintR_pure T (hc (by omega))) ?_
        try simp only [bS, bA, thenQ, blockQ, noGotoQ]
        iterate 5 (refine q0 _ ?_; clear q0 Q0; simp only [go_sem]; refine aops_chunk 1 fun Q0 q0 => ?_; simp only [↓bO, go_sem, seval])
        refine q0 _ ?_
        clear q0 Q0
        simp only [go_sem]
        refine aops_case 47 rfl (fun hc47 => ?_) (fun hc47 => ?_)
        ·
         simp only [List.set_cons_zero, List.set_cons_succ]
         refine aops_chunk 1 fun Q0 q0 => ?_
         simp only [↓bO, go_sem, seval]
         refine APure.call (awake4_pure) ?_
         try simp only [bS, bA, thenQ, blockQ, noGotoQ]
         refine q0 _ ?_
         clear q0 Q0
         simp only [go_sem]
         refine aops_chunk 1 fun Q0 q0 => ?_
         simp only [↓bO, go_sem, seval]
         refine q0 _ ?_
         clear q0 Q0
         simp only [go_sem]
         simp only [↓bO, go_sem, seval]
         refine y0 _ ?_
         try clear y0 Y0
         refine AWp_ret ?_
         try simp only [thenQ, blockQ, noGotoQ, retQ, aRes, tupOf, bS, bA]
         first | exact Le.refl _ | (refine Le.of_eq (congrArg (fun b => AV.v (.bool b)) ?_); simp_all [Ty.same_refl]; done)
        ·
         simp only [List.set_cons_zero, List.set_cons_succ]
         exfalso
         have h9 := hc47
         rcases hk with ⟨k1, k2, k3⟩ | ⟨k1, k2⟩ <;> simp_all [Ty.same_refl]
      ·
       simp only [List.set_cons_zero, List.set_cons_succ]
       exfalso
       have h9 := hc37
       rcases hk with ⟨k1, k2, k3⟩ | ⟨k1, k2⟩ <;> simp_all [Ty.same_refl]
     ·
      simp only [List.set_cons_zero, List.set_cons_succ]
      exfalso
      have h9 := hc32
      rcases hk with ⟨k1, k2, k3⟩ | ⟨k1, k2⟩ <;> simp_all [Ty.same_refl]
   ·
    simp only [List.set_cons_zero, List.set_cons_succ]
    exfalso
    have h9 := hc25
    rcases hk with ⟨k1, k2, k3⟩ | ⟨k1, k2⟩ <;> simp_all [Ty.same_refl]
theorem SignatureParses_pure (s : ByteArray) : APure Tryd.prog 3 [.v (.string s)] (.v (.bool true)) := by
  obtain ⟨h1, h2, h3, h4⟩ := parse_alike s
  have hc := pwParse_cnt s
  refine sigp_w s (pwParse s).1 (pwParse s).2 (trParse s).2 (fun _ => rfl) (fun _ => by rw [h1]) (fun _ => by omega) ?_
  cases hb : (trParse s).2 with
  | true => exact .inl ⟨rfl, h2.2 hb, h3 hb⟩
  | false => exact .inr ⟨rfl, h4 hb⟩
end Go.Proofs.YtkokfdmggdhfmaaDoor
namespace Go.Proofs.YtkokfdmggdhfmaaDoor.signatureParses
open Go Go.ChangeShapes Go.WideShapes Go.ChangeAt Go.RowKit
set_option linter.unusedVariables false
theorem own : ownKnob Tryd.prog.godebug = none := by kernel_rfl
theorem laidOut : laidOutB Tryd.prog = true := by kernel_rfl
theorem cT : Tryd.prog.cellsOf 25 = 3 := by kernel_rfl
theorem cI : Tryd.prog.cellsOf 3 = 1 := by kernel_rfl
theorem cS : Tryd.prog.cellsOf 23 = 1 := by kernel_rfl
section
variable {H : Type} {enc : TypeId × Value → H} {w : World} {base : Nat} {spare : Nat → Bool} {held : Bool}
theorem rdT (fuel : Nat) : Rd enc Tryd.prog w base spare held Env.none fuel 25 Ty.cells :=
  rd_ty Tryd.underlying25 cT rfl rfl rfl rfl rfl rfl Tryd.underlying3 cI Tryd.underlying23 cS fuel
theorem rdS (fuel : Nat) : Rd enc Tryd.prog w base spare held Env.none fuel 23 (fun xs : List Ty => [.sl 3 (xs.map Ty.cells)]) :=
  rd_slice Tryd.underlying23 cT (by omega) Ty.cells_len fun n _ => rdT n
end
set_option maxRecDepth 100000 in
theorem lifted (os : Go.Os) (started : os.Started) (H : Type) (enc : TypeId × Value → H) :
    ReturnsInHanded {} Tryd.checked os 3 .any (fun w args => (Rows.signatureParsesSpec.pre enc Tryd.prog Tryd.f3 Rows.signatureParsesRow.domain false w args ∧ laidMetH Tryd.prog Rows.signatureParsesRow.laid w) ∧ sizedMet enc Tryd.prog Tryd.f3 (OpenSpec.ofChange Rows.signatureParsesSpec) false w args)
      (Rows.signatureParsesSpec.post enc Tryd.prog Tryd.f3 false true false false) := by
  refine returnsInHanded_of_change_and (C := Tryd.checked) (X := fun w _ => laidMetH Tryd.prog Rows.signatureParsesRow.laid w) (fun _ _ _ hh h => h.of_heap hh) own started (by kernel_rfl) Tryd.func3
    (ChangeSpec.witness_shaped (enc := enc) (C := Tryd.checked) (os := os) (X := fun w _ => laidMetH Tryd.prog Rows.signatureParsesRow.laid w) false (World.laidAll Tryd.prog os Rows.signatureParsesRow.laid) #[.string ByteArray.empty] 8 (World.laidAll_os _ _ _)
      (World.shaped_of_ZipB (by kernel_rfl) (by kernel_rfl)) (by kernel_rfl) (by kernel_rfl) (by kernel_rfl)
      (by rw [MakeChecks.laidMetH_plain _ _ _ (by kernel_rfl)]; exact laidMet_laidAll _ (by kernel_rfl) (by kernel_rfl))) ?_
  intro W base args ds gs before hval0 hW hcnd _ hL _
  have hlaid : laidMet Tryd.prog Rows.signatureParsesRow.laid W := by have h := hL; rw [MakeChecks.laidMetH_plain _ _ _ (by kernel_rfl)] at h; exact h
  have hgl : Gl (fun _ _ => False) W := by
    refine ⟨?_, ?_⟩
    · intro p hp
      have hp : p ∈ [(0, gv0), (5, gv5)] := hp
      rcases List.mem_cons.1 hp with rfl | hp
      · refine gl_one (Lib.tabIs_of_head (zs := gz0) (k := .u8) (g := 0) (t := 114) (e := 5) (n := 256) (rest := []) (name := "strings.asciiSpace") (by kernel_rfl) (by kernel_rfl) Tryd.underlying114 Tryd.underlying5 (by kernel_rfl) (by kernel_rfl) ?_) (by kernel_rfl) rfl
        have h := hlaid.filter (fun x => x.1 == "strings.asciiSpace")
        rw [show (Rows.signatureParsesRow.laid.filter fun x => x.1 == "strings.asciiSpace") = [("strings.asciiSpace", Lib.tabData .u8 gz0)] from by kernel_rfl] at h
        exact h
      rcases List.mem_cons.1 hp with rfl | hp
      · refine gl_one (Lib.tabIs_of_head (zs := gz5) (k := .u64) (g := 5) (t := 166) (e := 138) (n := 20) (rest := []) (name := "internal/strconv.uint64pow10") (by kernel_rfl) (by kernel_rfl) Tryd.underlying166 Tryd.underlying138 (by kernel_rfl) (by kernel_rfl) ?_) (by kernel_rfl) rfl
        have h := hlaid.filter (fun x => x.1 == "internal/strconv.uint64pow10")
        rw [show (Rows.signatureParsesRow.laid.filter fun x => x.1 == "internal/strconv.uint64pow10") = [("internal/strconv.uint64pow10", Lib.tabData .u64 gz5)] from by kernel_rfl] at h
        exact h
      cases hp
    · intro p hp
      have hp : p ∈ ([3, 4] : List Nat) := hp
      rcases List.mem_cons.1 hp with rfl | hp
      · have h := hlaid.filter (fun x => x.1 == "strconv.ErrSyntax")
        rw [show (Rows.signatureParsesRow.laid.filter fun x => x.1 == "strconv.ErrSyntax") = [("strconv.ErrSyntax", .iface "*errors.errorString" (.ptr (.agg [.lit (.string [105, 110, 118, 97, 108, 105, 100, 32, 115, 121, 110, 116, 97, 120])])))] from by kernel_rfl] at h
        obtain ⟨a0, s0, hv0, _⟩ := laid_sentinel (g := 3) (ti := 97) (tp := 173) (te := 175) (ts := 9) h (by kernel_rfl) (by kernel_rfl) Tryd.underlying97
          (fun u hu => typeName_ptr_named (nm := "errors.errorString") (by rw [show "*" ++ "errors.errorString" = "*errors.errorString" by decide]; kernel_rfl) (by kernel_rfl) (by decide) u (by rw [show "*" ++ "errors.errorString" = "*errors.errorString" by decide]; exact hu))
          Tryd.underlying173 Tryd.underlying175 rfl rfl Tryd.underlying9 (by kernel_rfl) (by kernel_rfl)
        exact glE_one hv0 (by kernel_rfl)
      rcases List.mem_cons.1 hp with rfl | hp
      · have h := hlaid.filter (fun x => x.1 == "strconv.ErrRange")
        rw [show (Rows.signatureParsesRow.laid.filter fun x => x.1 == "strconv.ErrRange") = [("strconv.ErrRange", .iface "*errors.errorString" (.ptr (.agg [.lit (.string [118, 97, 108, 117, 101, 32, 111, 117, 116, 32, 111, 102, 32, 114, 97, 110, 103, 101])])))] from by kernel_rfl] at h
        obtain ⟨a0, s0, hv0, _⟩ := laid_sentinel (g := 4) (ti := 97) (tp := 173) (te := 175) (ts := 9) h (by kernel_rfl) (by kernel_rfl) Tryd.underlying97
          (fun u hu => typeName_ptr_named (nm := "errors.errorString") (by rw [show "*" ++ "errors.errorString" = "*errors.errorString" by decide]; kernel_rfl) (by kernel_rfl) (by decide) u (by rw [show "*" ++ "errors.errorString" = "*errors.errorString" by decide]; exact hu))
          Tryd.underlying173 Tryd.underlying175 rfl rfl Tryd.underlying9 (by kernel_rfl) (by kernel_rfl)
        exact glE_one hv0 (by kernel_rfl)
      cases hp
  have hval : ∀ (j : Nat) t v, Tryd.f3.params[j]? = some t → args[j]? = some v → Value.okWide Tryd.prog W .any base t v := hval0
  have hW' := hW
  obtain ⟨p, q, hA0, hV, rfl, hfz, hnd⟩ := hW
  have hA : DataW.TrodAll enc Tryd.prog W 0 (fun _ => true) true Tryd.f3.params.toList args.toList ds p := hA0
  rw [Tryd.params3] at hA hval
  obtain ⟨v0, vs0, d0, ds0, p0, q0, hargs, rfl, rfl, h0, r0⟩ := trodAll_cons hA
  obtain ⟨rfl, rfl, rfl⟩ := trodAll_nil r0
  obtain rfl : args = #[v0] := by cases args; simp_all
  obtain ⟨rfl, rfl⟩ := trodVars_none hV
  obtain ⟨a0, rfl, rfl, rfl, w0⟩ := ChangeMaps.open_string Tryd.underlying9 (hval 0 9 v0 rfl rfl) h0
  clear hA0 hval0
  refine ((SignatureParses_pure a0).calls (w := W) rfl ?_ hgl).mono fun e W' ⟨he, bel⟩ => ?_
  · intro i c u hc hu
    match i with
    | 0 => simp at hc hu; subst hc; subst hu; exact .v _
    | i + 1 => simp at hc
  subst he
  exact ⟨_, rfl, _, _, _, [], _, [], hW', trodAll_mk1 (shut_bool Tryd.underlying4 _), (trodAll_cons_mk (ChangeMaps.shut_string Tryd.underlying9 w0) trodAll_mk0), rfl, bel.frame _, fun h => by cases h⟩
theorem over : Rows.signatureParsesRow.holds Tryd.pinned (OpenSpec.ofChange Rows.signatureParsesSpec) :=
  OpenClaim.holds_of_wide 3 Tryd.f3 rfl rfl rfl rfl rfl rfl rfl ⟨rfl, rfl, rfl, rfl, rfl⟩ rfl rfl rfl rfl rfl (by kernel_rfl) Tryd.func3 (by kernel_rfl)
    (of_decide_eq_true (by kernel_rfl)) (by unfold Func.isWrapper; first | (rw [if_pos (by decide +kernel)]; kernel_rfl) | (rw [if_neg (by decide +kernel)]; exact ⟨rfl, rfl⟩))
    (fun os started H enc _ => lifted os started H enc)
end Go.Proofs.YtkokfdmggdhfmaaDoor.signatureParses
namespace Go.Proofs.YtkokfdmggdhfmaaDoor
theorem signatureParses_proved : Rows.SignatureParsesCardSaid :=
  Claim7.holds_tied_plain_at .later [] _ _ _ _ signatureParses.over (fun _ h => by cases h) (by kernel_rfl) (fun _ h => by cases h) signatureParses_row_tie rfl ⟨rfl, rfl⟩ (by kernel_rfl) rfl
    (fun f fn hf hfn => by
      obtain rfl : f = 3 := Option.some.inj ((show Tryd.prog.funcNamed "pangram/pangramlaw04.SignatureParses" = some 3 by kernel_rfl).symm.trans hf) |>.symm
      obtain rfl : fn = Tryd.f3 := (Option.some.inj (Tryd.func3.symm.trans hfn)).symm
      refine ⟨by kernel_rfl, fun j t ht => ?_⟩
      rw [Tryd.params3] at ht
      have hm : t ∈ [9] := by simpa using Array.mem_of_getElem? ht
      have hall : ([9].all fun u => !Tryd.prog.wantsStandIn u) = true := by kernel_rfl
      have := List.all_eq_true.1 hall t hm
      have h9 : Tryd.prog.wantsStandIn t = false := by simpa using this
      exact h9)
    (by kernel_rfl)
#print axioms signatureParses_proved
end Go.Proofs.YtkokfdmggdhfmaaDoor
