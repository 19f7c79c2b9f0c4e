/- Texts of the abstract walk, of the contracts and of the plain laws, packed (part 43 of 43): Ftlines FtA. Conditions: none. -/
import Derived.Test.YtmepcmphcghbeaaDoorPk42
import Derived.Test.YtmepcmphcghbeaaDoorCards
import Derived.Test.YtmepcmphcghbeaaDoorTie
import Derived.LaidSub
import Derived.Lib.LaidTab
import Derived.Stop.LaidErr
import Derived.OpenShut
import Derived.ChangeOld
import Derived.Below
import Derived.Lib.LaidU8
import Derived.Shelf.Vars
import Derived.LaidMore
import Derived.Lay
import Derived.SevenTiedAt
namespace Go.Proofs.YtmepcmphcghbeaaDoor.tapeLines
open Go Go.ChangeShapes Go.WideShapes Go.ChangeAt Go.RowKit
set_option linter.unnecessarySimpa false
set_option linter.unusedVariables false
theorem own : ownKnob Tryd.prog.godebug = none := by kernel_rfl
theorem laidOut : laidOutB Tryd.prog = true := by kernel_rfl
section
variable {H : Type} {enc : TypeId × Value → H} {w : World} {base : Nat} {spare : Nat → Bool} {held : Bool}
theorem cAc : Tryd.prog.cellsOf 30 = 9 := by kernel_rfl
theorem cLm : Tryd.prog.cellsOf 28 = 3 := by kernel_rfl
theorem cIn : Tryd.prog.cellsOf 3 = 1 := by kernel_rfl
theorem cSg : Tryd.prog.cellsOf 9 = 1 := by kernel_rfl
theorem rdP (fuel : Nat) : Rd enc Tryd.prog w base spare held Env.none fuel 30 ActP.cells :=
  rd_act Tryd.underlying30 Tryd.underlying28 cAc cLm cIn cSg Tryd.underlying3 Tryd.underlying9 rfl rfl rfl rfl rfl rfl rfl rfl rfl rfl rfl rfl rfl rfl rfl rfl rfl rfl rfl rfl fuel
end
set_option maxRecDepth 100000 in
theorem lifted (os : Go.Os) (started : os.Started) (H : Type) (enc : TypeId × Value → H) :
    ReturnsInHanded {} Tryd.checked os 5 .any (fun w args => (Rows.tapeLinesSpec.pre enc Tryd.prog Tryd.f5 Rows.tapeLinesRow.domain false w args ∧ laidMetH Tryd.prog Rows.tapeLinesRow.laid w) ∧ sizedMet enc Tryd.prog Tryd.f5 (OpenSpec.ofChange Rows.tapeLinesSpec) false w args)
      (Rows.tapeLinesSpec.post enc Tryd.prog Tryd.f5 false true false false) := by
  refine handed_laid_shaped (C := Tryd.checked) (X := fun w _ => laidMetH Tryd.prog Rows.tapeLinesRow.laid w) (fun _ _ _ hh h => h.of_heap hh) own started (by kernel_rfl) Tryd.func5
    (ChangeSpec.witness_shaped (enc := enc) (C := Tryd.checked) (os := os) (X := fun w _ => laidMetH Tryd.prog Rows.tapeLinesRow.laid w) false (World.laidAll Tryd.prog os Rows.tapeLinesRow.laid) #[.agg #[.int .i64 0, .string ByteArray.empty, .int .i64 0, .int .i64 0, .string ByteArray.empty, .int .i64 0, .int .i64 0, .int .i64 0, .int .i64 0], .agg #[.int .i64 0, .string ByteArray.empty, .int .i64 0, .int .i64 0, .string ByteArray.empty, .int .i64 0, .int .i64 0, .int .i64 0, .int .i64 0]] 8 (World.laidAll_os _ _ _)
      (World.shaped_of_ZipB (by kernel_rfl) (by kernel_rfl)) (by kernel_rfl) (by kernel_rfl) (by kernel_rfl)
      (by rw [MakeChecks.laidMetH_plain _ _ _ (by kernel_rfl)]; exact laidMet_laidAll _ (by kernel_rfl) (by kernel_rfl))) ?_
  intro W base args ds gs before hval0 hW hcnd hL hsh
  have hlaid : laidMet Tryd.prog Rows.tapeLinesRow.laid W := by have h := hL; rw [MakeChecks.laidMetH_plain _ _ _ (by kernel_rfl)] at h; exact h
  have hgl : Gl (fun _ _ => False) W := by
    refine ⟨?_, ?_, ?_⟩
    · intro p hp
      have hp : p ∈ [(0, gv0), (2, gv2), (4, gv4)] := hp
      rcases List.mem_cons.1 hp with rfl | hp
      · refine gl_strs (strsIs_of_head (lls := [[[], []], [[111, 112, 101, 110], [110, 116]], [[101, 100, 105, 116], [110, 102, 111, 116]], [[99, 108, 111, 115, 101], [110]], [[99, 104, 101, 99, 107], [110]], [[114, 117, 110], [110, 117]], [[108, 105, 109, 105, 116], [108]], [[108, 105, 115, 116], []]]) (l := gy0) (g := 0) (t := 62) (e := 61) (s := 9) (n := 8) (m := 2) (rest := []) (name := "pangram/tape.uses") (by kernel_rfl) (by kernel_rfl) Tryd.underlying62 Tryd.underlying61 Tryd.underlying9 (by kernel_rfl) (by kernel_rfl) (by kernel_rfl) (by kernel_rfl) ?_) (by kernel_rfl) rfl
        have h := hlaid.filter (fun x => x.1 == "pangram/tape.uses")
        rw [show (Rows.tapeLinesRow.laid.filter fun x => x.1 == "pangram/tape.uses") = [("pangram/tape.uses", .agg (([[[], []], [[111, 112, 101, 110], [110, 116]], [[101, 100, 105, 116], [110, 102, 111, 116]], [[99, 108, 111, 115, 101], [110]], [[99, 104, 101, 99, 107], [110]], [[114, 117, 110], [110, 117]], [[108, 105, 109, 105, 116], [108]], [[108, 105, 115, 116], []]] : List (List (List UInt8))).map fun ls => .agg (ls.map fun l => .lit (.string l))))] from by kernel_rfl] at h
        exact h
      rcases List.mem_cons.1 hp with rfl | hp
      · refine gl_one (Lib.tabIs_of_head (zs := gz2) (k := .u8) (g := 2) (t := 98) (e := 5) (n := 256) (rest := []) (name := "strings.asciiSpace") (by kernel_rfl) (by kernel_rfl) Tryd.underlying98 Tryd.underlying5 (by kernel_rfl) (by kernel_rfl) ?_) (by kernel_rfl) rfl
        have h := hlaid.filter (fun x => x.1 == "strings.asciiSpace")
        rw [show (Rows.tapeLinesRow.laid.filter fun x => x.1 == "strings.asciiSpace") = [("strings.asciiSpace", Lib.tabData .u8 gz2)] from by kernel_rfl] at h
        exact h
      rcases List.mem_cons.1 hp with rfl | hp
      · refine gl_one (Lib.tabIs_of_head (zs := gz4) (k := .u64) (g := 4) (t := 121) (e := 85) (n := 20) (rest := []) (name := "internal/strconv.uint64pow10") (by kernel_rfl) (by kernel_rfl) Tryd.underlying121 Tryd.underlying85 (by kernel_rfl) (by kernel_rfl) ?_) (by kernel_rfl) rfl
        have h := hlaid.filter (fun x => x.1 == "internal/strconv.uint64pow10")
        rw [show (Rows.tapeLinesRow.laid.filter fun x => x.1 == "internal/strconv.uint64pow10") = [("internal/strconv.uint64pow10", Lib.tabData .u64 gz4)] from by kernel_rfl] at h
        exact h
      cases hp
    · intro p hp
      have hp : p ∈ ([5, 6] : List Nat) := hp
      rcases List.mem_cons.1 hp with rfl | hp
      · have h := hlaid.filter (fun x => x.1 == "strconv.ErrSyntax")
        rw [show (Rows.tapeLinesRow.laid.filter fun x => x.1 == "strconv.ErrSyntax") = [("strconv.ErrSyntax", .iface "*errors.errorString" (.ptr (.agg [.lit (.string [105, 110, 118, 97, 108, 105, 100, 32, 115, 121, 110, 116, 97, 120])])))] from by kernel_rfl] at h
        obtain ⟨a0, s0, hv0, _⟩ := laid_sentinel (g := 5) (ti := 77) (tp := 142) (te := 144) (ts := 9) h (by kernel_rfl) (by kernel_rfl) Tryd.underlying77
          (fun u hu => typeName_ptr_named (nm := "errors.errorString") (by rw [show "*" ++ "errors.errorString" = "*errors.errorString" by decide]; kernel_rfl) (by kernel_rfl) (by decide) u (by rw [show "*" ++ "errors.errorString" = "*errors.errorString" by decide]; exact hu))
          Tryd.underlying142 Tryd.underlying144 rfl rfl Tryd.underlying9 (by kernel_rfl) (by kernel_rfl)
        exact glE_one hv0 (by kernel_rfl)
      rcases List.mem_cons.1 hp with rfl | hp
      · have h := hlaid.filter (fun x => x.1 == "strconv.ErrRange")
        rw [show (Rows.tapeLinesRow.laid.filter fun x => x.1 == "strconv.ErrRange") = [("strconv.ErrRange", .iface "*errors.errorString" (.ptr (.agg [.lit (.string [118, 97, 108, 117, 101, 32, 111, 117, 116, 32, 111, 102, 32, 114, 97, 110, 103, 101])])))] from by kernel_rfl] at h
        obtain ⟨a0, s0, hv0, _⟩ := laid_sentinel (g := 6) (ti := 77) (tp := 142) (te := 144) (ts := 9) h (by kernel_rfl) (by kernel_rfl) Tryd.underlying77
          (fun u hu => typeName_ptr_named (nm := "errors.errorString") (by rw [show "*" ++ "errors.errorString" = "*errors.errorString" by decide]; kernel_rfl) (by kernel_rfl) (by decide) u (by rw [show "*" ++ "errors.errorString" = "*errors.errorString" by decide]; exact hu))
          Tryd.underlying142 Tryd.underlying144 rfl rfl Tryd.underlying9 (by kernel_rfl) (by kernel_rfl)
        exact glE_one hv0 (by kernel_rfl)
      cases hp
    · intro p hp
      have hp : p ∈ ([Lib.WhiteTab 3, fun w => ∃ m : Int, w.cell? ⟨1, 0, none⟩ = some (.int .i64 m)] : List (World → Prop)) := hp
      rcases List.mem_cons.1 hp with rfl | hp
      · intro w1 hs1
        have h := hlaid.filter (fun x => x.1 == "unicode.White_Space")
        rw [show (Rows.tapeLinesRow.laid.filter fun x => x.1 == "unicode.White_Space") = [("unicode.White_Space", Lib.whiteData)] from by kernel_rfl] at h
        exact WhiteTab_below (whiteTab_of_reads { Tryd.lays157 with } ⟨by kernel_rfl, by kernel_rfl, by kernel_rfl, by kernel_rfl, by kernel_rfl, by kernel_rfl, by kernel_rfl, by kernel_rfl⟩ (Lib.laidMet.reads h (.head _))) hs1.below
      rcases List.mem_cons.1 hp with rfl | hp
      · intro w1 hs1
        obtain ⟨m, hm⟩ := cell_of_shapedOpen_int (P := Tryd.prog) (g := 1) (t := 3) (k := .i64) (zero := #[.int .i64 0]) hsh (of_decide_eq_true (by kernel_rfl)) (by kernel_rfl) rfl (by kernel_rfl) (by kernel_rfl) Tryd.underlying3
        exact ⟨m, (hs1.below.cell (World.block_lt_of_cell? W _ hm)).trans hm⟩
      cases hp
  have hval : ∀ (j : Nat) t v, Tryd.f5.params[j]? = some t → args[j]? = some v → Value.okWide Tryd.prog W .any base t v := hval0
  have hW' := hW
  obtain ⟨p, q, hA0, hV, rfl, hfz, hnd⟩ := hW
  have hA : DataW.TrodAll enc Tryd.prog W 0 (fun _ => true) true Tryd.f5.params.toList args.toList ds p := hA0
  rw [Tryd.params5] at hA hval
  obtain ⟨v0, vs0, d0, ds0, p0, q0, hargs, rfl, rfl, h0, r0⟩ := trodAll_cons hA
  obtain ⟨v1, vs1, d1, ds1, p1, q1, rfl, rfl, rfl, h1, r1⟩ := trodAll_cons r0
  obtain ⟨rfl, rfl, rfl⟩ := trodAll_nil r1
  obtain rfl : args = #[v0, v1] := by cases args; simp_all
  obtain ⟨rfl, rfl⟩ := trodVars_none hV
  have k0 := h0
  have lt0 : ∀ x ∈ p0, x.block < W.heap.size := by obtain ⟨m, hm⟩ := k0; exact DataW.trod_lt m _ _ _ hm
  obtain ⟨us0, hus0⟩ : ∃ us, v0 = .agg us := (by obtain ⟨cs, h, _⟩ := okWide_struct Tryd.underlying30 (hval 0 30 v0 rfl rfl); exact ⟨cs, h⟩)
  subst hus0
  obtain ⟨T0, hr0⟩ : ∃ T : ActP, Rp Env.none (fun _ _ => False) W (.agg T.cells) (.agg us0) := by
    obtain ⟨m, hm⟩ := h0
    obtain ⟨T, hl, hr⟩ := rdP m _ _ hm
    exact ⟨T, .agg (by simpa [Value.cells] using hl) fun i c u hc hu => hr i c u hc (by simpa [Value.cells] using hu)⟩
  have k1 := h1
  have lt1 : ∀ x ∈ p1, x.block < W.heap.size := by obtain ⟨m, hm⟩ := k1; exact DataW.trod_lt m _ _ _ hm
  obtain ⟨us1, hus1⟩ : ∃ us, v1 = .agg us := (by obtain ⟨cs, h, _⟩ := okWide_struct Tryd.underlying30 (hval 1 30 v1 rfl rfl); exact ⟨cs, h⟩)
  subst hus1
  obtain ⟨T1, hr1⟩ : ∃ T : ActP, Rp Env.none (fun _ _ => False) W (.agg T.cells) (.agg us1) := by
    obtain ⟨m, hm⟩ := h1
    obtain ⟨T, hl, hr⟩ := rdP m _ _ hm
    exact ⟨T, .agg (by simpa [Value.cells] using hl) fun i c u hc hu => hr i c u hc (by simpa [Value.cells] using hu)⟩
  clear hA0 hval0
  refine ((TapeLines_pure T0 T1 T0.2.1 T0.2.2.1 T0.2.2.2).calls (w := W) rfl ?_ hgl).mono fun e W' ⟨he, bel⟩ => ?_
  · intro i c u hc hu
    match i with
    | 0 => simp at hc hu; subst hc; subst hu; exact hr0
    | 1 => simp at hc hu; subst hc; subst hu; exact hr1
    | i + 2 => simp at hc
  subst he
  exact ⟨_, rfl, _, _, _, [], _, [], hW', trodAll_mk1 (shut_bool Tryd.underlying4 _), (trodAll_cons_mk (Below.trod laidOut (by kernel_rfl) (of_decide_eq_true (by kernel_rfl)) k0 bel lt0) (trodAll_cons_mk (Below.trod laidOut (by kernel_rfl) (of_decide_eq_true (by kernel_rfl)) k1 bel lt1) trodAll_mk0)), rfl, bel.frame _, fun h => by cases h⟩
theorem over : Rows.tapeLinesRow.holds Tryd.pinned (OpenSpec.ofChange Rows.tapeLinesSpec) :=
  OpenClaim.holds_of_wide 5 Tryd.f5 rfl rfl rfl rfl rfl rfl rfl ⟨rfl, rfl, rfl, rfl, rfl⟩ rfl rfl rfl rfl rfl (by kernel_rfl) Tryd.func5 (by kernel_rfl)
    (of_decide_eq_true (by kernel_rfl)) (by unfold Func.isWrapper; first | (rw [if_pos (by decide +kernel)]; kernel_rfl) | (rw [if_neg (by decide +kernel)]; exact ⟨rfl, rfl⟩))
    (fun os started H enc _ => lifted os started H enc)
end Go.Proofs.YtmepcmphcghbeaaDoor.tapeLines
namespace Go.Proofs.YtmepcmphcghbeaaDoor
theorem tapeLines_proved : Rows.TapeLinesCardSaid :=
  Claim7.holds_tied_plain_at .later [] _ _ _ _ tapeLines.over (fun _ h => by cases h) (by kernel_rfl) (fun _ h => by cases h) tapeLines_row_tie rfl ⟨rfl, rfl⟩ (by kernel_rfl) rfl
    (fun f fn hf hfn => by
      obtain rfl : f = 5 := Option.some.inj ((show Tryd.prog.funcNamed "pangram/pangramlaw28.TapeLines" = some 5 by kernel_rfl).symm.trans hf) |>.symm
      obtain rfl : fn = Tryd.f5 := (Option.some.inj (Tryd.func5.symm.trans hfn)).symm
      refine ⟨by kernel_rfl, fun j t ht => ?_⟩
      rw [Tryd.params5] at ht
      have hm : t ∈ [30, 30] := by simpa using Array.mem_of_getElem? ht
      have hall : ([30, 30].all fun u => !Tryd.prog.wantsStandIn u) = true := by kernel_rfl
      have := List.all_eq_true.1 hall t hm
      have h9 : Tryd.prog.wantsStandIn t = false := by simpa using this
      exact h9)
    (by kernel_rfl)
#print axioms tapeLines_proved
end Go.Proofs.YtmepcmphcghbeaaDoor
namespace Go.Proofs.YtmepcmphcghbeaaDoor
theorem tapeA_proved : Rows.TapeParsesCardSaid ∧ Rows.TapeLinesCardSaid :=
  ⟨tapeParses_proved, tapeLines_proved⟩
end Go.Proofs.YtmepcmphcghbeaaDoor
