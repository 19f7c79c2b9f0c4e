/-
  NARROWER THAN 'FOR EVERY INPUT', by the rows' own cells (each row's printed sentence says how): UnifyClasses: loops · UnifyParts: loops · UnifyNone: loops · CycleMore: loops.
  DERIVED. THE GIVEN ROWS OF THIS SEAT. 6 by the template 'for every input the law returns true; each argument reads behind the call as it read before'; 0 by the template 'total and deterministic' (their statements: YtjjjckjebkmnjaaTotals.lean).
  GIVEN WITH THE SEED: the statements are not yours to turn. If you find one false, say at which input.
  Laid BY PROGRAM, IN A SANDBOX (cutbox-rows.mjs): the forced cells as the released guide's own fill.sh prints them over the translation 5dcb79442830a41c… (all of the seat's roots in one cut). By AI agents, Wed Nov 11 2026. No macro, syntax, notation, axiom, sorry.
-/
import Derived.Test.YtjjjckjebkmnjaaChecked
import GoSem.Claim
import GoSem.ClaimJoined
import GoSem.ClaimMapViews
import Derived.JoinedTies
import Derived.KernelRfl
namespace Go.Proofs.Ytjjjckjebkmnjaa
/- THE CELL 'sum', in the pinned program and in every row, IS THE sha256 OF THE DUMP (.gsa) THAT YtjjjckjebkmnjaaProg.lean LOADS. Nothing in Lean hashes anything: it is a label: what it is worth is what the hold of that sum in a sandbox is worth. -/
noncomputable def Try.pinned : Pinned := { name := "ytjjjckjebkmnjaa", sum := "5dcb79442830a41ced15158699f0de5b576d9c4838e480a1eb065ded86610c51", checked := Try.checked }
namespace Rows
def none {H : Type} : Left H := { results := [], args := [] }

/-- 'pangramlaw12.UnifyClasses': WHATEVER THE INPUT: true; the input reads as it did. -/
def unifyClassesSpec : ChangeSpec := { name := "unifyClasses", fn := fun _ => fun
  | [d1, d2] => { results := [.lit (.bool true)], args := [d1, d2] }
  | _ => none }
def unifyClassesRow : OpenClaim := { program := "ytjjjckjebkmnjaa", sum := "5dcb79442830a41ced15158699f0de5b576d9c4838e480a1eb065ded86610c51", func := "pangram/pangramlaw12.UnifyClasses", spec := "unifyClasses", unfollowed := true, recurses := true, loops := true, apart := false }
def UnifyClassesSaid : Prop := unifyClassesRow.holds Try.pinned (OpenSpec.ofChange unifyClassesSpec)

/-- ITS FALSE NEIGHBOUR: 'it returns false'. Refute it at one input. -/
def unifyClassesWrong : ChangeSpec := { name := "unifyClasses", fn := fun _ => fun
  | [d1, d2] => { results := [.lit (.bool false)], args := [d1, d2] }
  | _ => none }
def UnifyClassesWrongFalsely : Prop := unifyClassesRow.holds Try.pinned (OpenSpec.ofChange unifyClassesWrong)

/-- 'pangramlaw12.UnifyParts': WHATEVER THE INPUT: true; the input reads as it did. -/
def unifyPartsSpec : ChangeSpec := { name := "unifyParts", fn := fun _ => fun
  | [d1, d2] => { results := [.lit (.bool true)], args := [d1, d2] }
  | _ => none }
def unifyPartsRow : OpenClaim := { program := "ytjjjckjebkmnjaa", sum := "5dcb79442830a41ced15158699f0de5b576d9c4838e480a1eb065ded86610c51", func := "pangram/pangramlaw12.UnifyParts", spec := "unifyParts", unfollowed := true, recurses := true, loops := true, apart := false }
def UnifyPartsSaid : Prop := unifyPartsRow.holds Try.pinned (OpenSpec.ofChange unifyPartsSpec)

/-- ITS FALSE NEIGHBOUR: 'it returns false'. Refute it at one input. -/
def unifyPartsWrong : ChangeSpec := { name := "unifyParts", fn := fun _ => fun
  | [d1, d2] => { results := [.lit (.bool false)], args := [d1, d2] }
  | _ => none }
def UnifyPartsWrongFalsely : Prop := unifyPartsRow.holds Try.pinned (OpenSpec.ofChange unifyPartsWrong)

/-- 'pangramlaw12.UnifyNone': WHATEVER THE INPUT: true; the input reads as it did. -/
def unifyNoneSpec : ChangeSpec := { name := "unifyNone", fn := fun _ => fun
  | [d1, d2, d3] => { results := [.lit (.bool true)], args := [d1, d2, d3] }
  | _ => none }
def unifyNoneRow : OpenClaim := { program := "ytjjjckjebkmnjaa", sum := "5dcb79442830a41ced15158699f0de5b576d9c4838e480a1eb065ded86610c51", func := "pangram/pangramlaw12.UnifyNone", spec := "unifyNone", unfollowed := true, recurses := true, loops := true, apart := false }
def UnifyNoneSaid : Prop := unifyNoneRow.holds Try.pinned (OpenSpec.ofChange unifyNoneSpec)

/-- ITS FALSE NEIGHBOUR: 'it returns false'. Refute it at one input. -/
def unifyNoneWrong : ChangeSpec := { name := "unifyNone", fn := fun _ => fun
  | [d1, d2, d3] => { results := [.lit (.bool false)], args := [d1, d2, d3] }
  | _ => none }
def UnifyNoneWrongFalsely : Prop := unifyNoneRow.holds Try.pinned (OpenSpec.ofChange unifyNoneWrong)

/-- 'pangramlaw13.CycleMore': WHATEVER THE INPUT: true; the input reads as it did. -/
def cycleMoreSpec : ChangeSpec := { name := "cycleMore", fn := fun _ => fun
  | [d1, d2] => { results := [.lit (.bool true)], args := [d1, d2] }
  | _ => none }
def cycleMoreRow : OpenClaim := { program := "ytjjjckjebkmnjaa", sum := "5dcb79442830a41ced15158699f0de5b576d9c4838e480a1eb065ded86610c51", func := "pangram/pangramlaw13.CycleMore", spec := "cycleMore", unfollowed := true, recurses := true, loops := true, apart := false }
def CycleMoreSaid : Prop := cycleMoreRow.holds Try.pinned (OpenSpec.ofChange cycleMoreSpec)

/-- ITS FALSE NEIGHBOUR: 'it returns false'. Refute it at one input. -/
def cycleMoreWrong : ChangeSpec := { name := "cycleMore", fn := fun _ => fun
  | [d1, d2] => { results := [.lit (.bool false)], args := [d1, d2] }
  | _ => none }
def CycleMoreWrongFalsely : Prop := cycleMoreRow.holds Try.pinned (OpenSpec.ofChange cycleMoreWrong)

/-- 'pangramlaw13.CycleGreat': WHATEVER THE INPUT: true; the input reads as it did. -/
def cycleGreatSpec : ChangeSpec := { name := "cycleGreat", fn := fun _ => fun
  | [d] => { results := [.lit (.bool true)], args := [d] }
  | _ => none }
def cycleGreatRow : OpenClaim := { program := "ytjjjckjebkmnjaa", sum := "5dcb79442830a41ced15158699f0de5b576d9c4838e480a1eb065ded86610c51", func := "pangram/pangramlaw13.CycleGreat", spec := "cycleGreat", unfollowed := true, recurses := true, apart := false }
def CycleGreatSaid : Prop := cycleGreatRow.holds Try.pinned (OpenSpec.ofChange cycleGreatSpec)

/-- ITS FALSE NEIGHBOUR: 'it returns false'. Refute it at one input. -/
def cycleGreatWrong : ChangeSpec := { name := "cycleGreat", fn := fun _ => fun
  | [d] => { results := [.lit (.bool false)], args := [d] }
  | _ => none }
def CycleGreatWrongFalsely : Prop := cycleGreatRow.holds Try.pinned (OpenSpec.ofChange cycleGreatWrong)

/-- 'pangramlaw13.CycleNone': WHATEVER THE INPUT: true; the input reads as it did. -/
def cycleNoneSpec : ChangeSpec := { name := "cycleNone", fn := fun _ => fun
  | [d] => { results := [.lit (.bool true)], args := [d] }
  | _ => none }
def cycleNoneRow : OpenClaim := { program := "ytjjjckjebkmnjaa", sum := "5dcb79442830a41ced15158699f0de5b576d9c4838e480a1eb065ded86610c51", func := "pangram/pangramlaw13.CycleNone", spec := "cycleNone", unfollowed := true, recurses := true, apart := false }
def CycleNoneSaid : Prop := cycleNoneRow.holds Try.pinned (OpenSpec.ofChange cycleNoneSpec)

/-- ITS FALSE NEIGHBOUR: 'it returns false'. Refute it at one input. -/
def cycleNoneWrong : ChangeSpec := { name := "cycleNone", fn := fun _ => fun
  | [d] => { results := [.lit (.bool false)], args := [d] }
  | _ => none }
def CycleNoneWrongFalsely : Prop := cycleNoneRow.holds Try.pinned (OpenSpec.ofChange cycleNoneWrong)

/- THE SECOND FORM. 'bulk': how many values and letters a reading holds, each counted each time it is reached (what is shared counts as often as it is met; a slice's spare places count too). A statement '..UptoSaid' is the law's where the arguments, and the package variables that the reading takes, are together of bulk at most 1048576: NARROWER than '..Said'. Prove '..Said' where nothing that the law and all that it calls make is longer than what came in: it says more and counts as full. Else prove '..UptoSaid'. A law counts once. -/
mutual
def uptoBulk {H : Type} : DataW H → Nat
  | .lit (.string bytes) => bytes.length + 1
  | .lit _ => 1
  | .nil => 1
  | .ptr d => uptoBulk d + 1
  | .slice elems spare => uptoBulkAll elems + uptoBulkAll spare + 1
  | .agg parts => uptoBulkAll parts + 1
  | .iface _ d => uptoBulk d + 1
  | .map entries => uptoBulkEntries entries + 1
  | .held _ => 1
def uptoBulkAll {H : Type} : List (DataW H) → Nat
  | [] => 0
  | d :: r => uptoBulk d + uptoBulkAll r
def uptoBulkEntries {H : Type} : List (Lit × DataW H) → Nat
  | [] => 0
  | x :: r => uptoBulkEntry x + uptoBulkEntries r
def uptoBulkEntry {H : Type} : Lit × DataW H → Nat
  | (.string bytes, d) => bytes.length + uptoBulk d + 1
  | (_, d) => uptoBulk d + 1
 end
def uptoSmall : (H : Type) → List (DataW H) → Bool := fun _ ds => decide (uptoBulkAll ds ≤ 1048576)
def OpenSpec.upto (s : _root_.Go.ChangeSpec) : _root_.Go.OpenSpec := { _root_.Go.OpenSpec.ofChange s with cond := some uptoSmall }

/-- 'pangramlaw12.UnifyClasses', WHERE WHAT IT READS IS OF BULK AT MOST 1048576: true; the input reads as it did. -/
def unifyClassesUptoRow : OpenClaim := { program := "ytjjjckjebkmnjaa", sum := "5dcb79442830a41ced15158699f0de5b576d9c4838e480a1eb065ded86610c51", func := "pangram/pangramlaw12.UnifyClasses", spec := "unifyClasses", unfollowed := true, recurses := true, loops := true, apart := false, narrowed := true }
def UnifyClassesUptoSaid : Prop := unifyClassesUptoRow.holds Try.pinned (OpenSpec.upto unifyClassesSpec)

/-- 'pangramlaw12.UnifyParts', WHERE WHAT IT READS IS OF BULK AT MOST 1048576: true; the input reads as it did. -/
def unifyPartsUptoRow : OpenClaim := { program := "ytjjjckjebkmnjaa", sum := "5dcb79442830a41ced15158699f0de5b576d9c4838e480a1eb065ded86610c51", func := "pangram/pangramlaw12.UnifyParts", spec := "unifyParts", unfollowed := true, recurses := true, loops := true, apart := false, narrowed := true }
def UnifyPartsUptoSaid : Prop := unifyPartsUptoRow.holds Try.pinned (OpenSpec.upto unifyPartsSpec)

/-- 'pangramlaw12.UnifyNone', WHERE WHAT IT READS IS OF BULK AT MOST 1048576: true; the input reads as it did. -/
def unifyNoneUptoRow : OpenClaim := { program := "ytjjjckjebkmnjaa", sum := "5dcb79442830a41ced15158699f0de5b576d9c4838e480a1eb065ded86610c51", func := "pangram/pangramlaw12.UnifyNone", spec := "unifyNone", unfollowed := true, recurses := true, loops := true, apart := false, narrowed := true }
def UnifyNoneUptoSaid : Prop := unifyNoneUptoRow.holds Try.pinned (OpenSpec.upto unifyNoneSpec)

/-- 'pangramlaw13.CycleMore', WHERE WHAT IT READS IS OF BULK AT MOST 1048576: true; the input reads as it did. -/
def cycleMoreUptoRow : OpenClaim := { program := "ytjjjckjebkmnjaa", sum := "5dcb79442830a41ced15158699f0de5b576d9c4838e480a1eb065ded86610c51", func := "pangram/pangramlaw13.CycleMore", spec := "cycleMore", unfollowed := true, recurses := true, loops := true, apart := false, narrowed := true }
def CycleMoreUptoSaid : Prop := cycleMoreUptoRow.holds Try.pinned (OpenSpec.upto cycleMoreSpec)

/-- 'pangramlaw13.CycleGreat', WHERE WHAT IT READS IS OF BULK AT MOST 1048576: true; the input reads as it did. -/
def cycleGreatUptoRow : OpenClaim := { program := "ytjjjckjebkmnjaa", sum := "5dcb79442830a41ced15158699f0de5b576d9c4838e480a1eb065ded86610c51", func := "pangram/pangramlaw13.CycleGreat", spec := "cycleGreat", unfollowed := true, recurses := true, apart := false, narrowed := true }
def CycleGreatUptoSaid : Prop := cycleGreatUptoRow.holds Try.pinned (OpenSpec.upto cycleGreatSpec)

/-- 'pangramlaw13.CycleNone', WHERE WHAT IT READS IS OF BULK AT MOST 1048576: true; the input reads as it did. -/
def cycleNoneUptoRow : OpenClaim := { program := "ytjjjckjebkmnjaa", sum := "5dcb79442830a41ced15158699f0de5b576d9c4838e480a1eb065ded86610c51", func := "pangram/pangramlaw13.CycleNone", spec := "cycleNone", unfollowed := true, recurses := true, apart := false, narrowed := true }
def CycleNoneUptoSaid : Prop := cycleNoneUptoRow.holds Try.pinned (OpenSpec.upto cycleNoneSpec)

end Rows
end Go.Proofs.Ytjjjckjebkmnjaa
