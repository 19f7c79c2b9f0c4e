/-
  NARROWER THAN 'FOR EVERY INPUT', by the rows' own cells (each row's printed sentence says how): GraphTypes: loops · GraphKeeps: loops · GraphAdds: loops · GraphNone: loops · RobinMatches: loops · UnifyFirst: loops · UnifyMore: loops · UnifyOrder: loops.
  DERIVED. THE GIVEN ROWS OF THIS SEAT. 8 by the template 'for every input the law returns true; each argument reads behind the call as it read before'; 0 by the template 'total and deterministic' (their statements: YtohdoloalolpfaaTotals.lean).
  GIVEN WITH THE SEED: the statements are not yours to turn. If you find one false, say at which input.
  Laid BY PROGRAM, IN A SANDBOX (cutbox-rows.mjs): the forced cells as the released guide's own fill.sh prints them over the translation 4805695cccc8d0d9… (all of the seat's roots in one cut). By AI agents, Wed Nov 11 2026. No macro, syntax, notation, axiom, sorry.
-/
import Derived.Test.YtohdoloalolpfaaChecked
import GoSem.Claim
import GoSem.ClaimJoined
import GoSem.ClaimMapViews
import Derived.JoinedTies
import Derived.KernelRfl
namespace Go.Proofs.Ytohdoloalolpfaa
/- THE CELL 'sum', in the pinned program and in every row, IS THE sha256 OF THE DUMP (.gsa) THAT YtohdoloalolpfaaProg.lean LOADS. Nothing in Lean hashes anything: it is a label: what it is worth is what the hold of that sum in a sandbox is worth. -/
noncomputable def Try.pinned : Pinned := { name := "ytohdoloalolpfaa", sum := "4805695cccc8d0d9c58f7c8a20d62737ee139dd4d664e4a699811712010f59ea", checked := Try.checked }
namespace Rows
def none {H : Type} : Left H := { results := [], args := [] }

/-- 'pangramlaw11.GraphTypes': WHATEVER THE INPUT: true; the input reads as it did. -/
def graphTypesSpec : ChangeSpec := { name := "graphTypes", fn := fun _ => fun
  | [d1, d2, d3] => { results := [.lit (.bool true)], args := [d1, d2, d3] }
  | _ => none }
def graphTypesRow : OpenClaim := { program := "ytohdoloalolpfaa", sum := "4805695cccc8d0d9c58f7c8a20d62737ee139dd4d664e4a699811712010f59ea", func := "pangram/pangramlaw11.GraphTypes", spec := "graphTypes", unfollowed := true, recurses := true, loops := true, apart := false }
def GraphTypesSaid : Prop := graphTypesRow.holds Try.pinned (OpenSpec.ofChange graphTypesSpec)

/-- ITS FALSE NEIGHBOUR: 'it returns false'. Refute it at one input. -/
def graphTypesWrong : ChangeSpec := { name := "graphTypes", fn := fun _ => fun
  | [d1, d2, d3] => { results := [.lit (.bool false)], args := [d1, d2, d3] }
  | _ => none }
def GraphTypesWrongFalsely : Prop := graphTypesRow.holds Try.pinned (OpenSpec.ofChange graphTypesWrong)

/-- 'pangramlaw11.GraphKeeps': WHATEVER THE INPUT: true; the input reads as it did. -/
def graphKeepsSpec : ChangeSpec := { name := "graphKeeps", fn := fun _ => fun
  | [d1, d2] => { results := [.lit (.bool true)], args := [d1, d2] }
  | _ => none }
def graphKeepsRow : OpenClaim := { program := "ytohdoloalolpfaa", sum := "4805695cccc8d0d9c58f7c8a20d62737ee139dd4d664e4a699811712010f59ea", func := "pangram/pangramlaw11.GraphKeeps", spec := "graphKeeps", unfollowed := true, recurses := true, loops := true, apart := false }
def GraphKeepsSaid : Prop := graphKeepsRow.holds Try.pinned (OpenSpec.ofChange graphKeepsSpec)

/-- ITS FALSE NEIGHBOUR: 'it returns false'. Refute it at one input. -/
def graphKeepsWrong : ChangeSpec := { name := "graphKeeps", fn := fun _ => fun
  | [d1, d2] => { results := [.lit (.bool false)], args := [d1, d2] }
  | _ => none }
def GraphKeepsWrongFalsely : Prop := graphKeepsRow.holds Try.pinned (OpenSpec.ofChange graphKeepsWrong)

/-- 'pangramlaw11.GraphAdds': WHATEVER THE INPUT: true; the input reads as it did. -/
def graphAddsSpec : ChangeSpec := { name := "graphAdds", fn := fun _ => fun
  | [d1, d2] => { results := [.lit (.bool true)], args := [d1, d2] }
  | _ => none }
def graphAddsRow : OpenClaim := { program := "ytohdoloalolpfaa", sum := "4805695cccc8d0d9c58f7c8a20d62737ee139dd4d664e4a699811712010f59ea", func := "pangram/pangramlaw11.GraphAdds", spec := "graphAdds", unfollowed := true, recurses := true, loops := true, apart := false }
def GraphAddsSaid : Prop := graphAddsRow.holds Try.pinned (OpenSpec.ofChange graphAddsSpec)

/-- ITS FALSE NEIGHBOUR: 'it returns false'. Refute it at one input. -/
def graphAddsWrong : ChangeSpec := { name := "graphAdds", fn := fun _ => fun
  | [d1, d2] => { results := [.lit (.bool false)], args := [d1, d2] }
  | _ => none }
def GraphAddsWrongFalsely : Prop := graphAddsRow.holds Try.pinned (OpenSpec.ofChange graphAddsWrong)

/-- 'pangramlaw11.GraphNone': WHATEVER THE INPUT: true; the input reads as it did. -/
def graphNoneSpec : ChangeSpec := { name := "graphNone", fn := fun _ => fun
  | [d1, d2, d3] => { results := [.lit (.bool true)], args := [d1, d2, d3] }
  | _ => none }
def graphNoneRow : OpenClaim := { program := "ytohdoloalolpfaa", sum := "4805695cccc8d0d9c58f7c8a20d62737ee139dd4d664e4a699811712010f59ea", func := "pangram/pangramlaw11.GraphNone", spec := "graphNone", unfollowed := true, recurses := true, loops := true, apart := false }
def GraphNoneSaid : Prop := graphNoneRow.holds Try.pinned (OpenSpec.ofChange graphNoneSpec)

/-- ITS FALSE NEIGHBOUR: 'it returns false'. Refute it at one input. -/
def graphNoneWrong : ChangeSpec := { name := "graphNone", fn := fun _ => fun
  | [d1, d2, d3] => { results := [.lit (.bool false)], args := [d1, d2, d3] }
  | _ => none }
def GraphNoneWrongFalsely : Prop := graphNoneRow.holds Try.pinned (OpenSpec.ofChange graphNoneWrong)

/-- 'pangramlaw15.RobinMatches': WHATEVER THE INPUT: true; the input reads as it did. -/
def robinMatchesSpec : ChangeSpec := { name := "robinMatches", fn := fun _ => fun
  | [d1, d2] => { results := [.lit (.bool true)], args := [d1, d2] }
  | _ => none }
def robinMatchesRow : OpenClaim := { program := "ytohdoloalolpfaa", sum := "4805695cccc8d0d9c58f7c8a20d62737ee139dd4d664e4a699811712010f59ea", func := "pangram/pangramlaw15.RobinMatches", spec := "robinMatches", unfollowed := true, recurses := true, loops := true, apart := false }
def RobinMatchesSaid : Prop := robinMatchesRow.holds Try.pinned (OpenSpec.ofChange robinMatchesSpec)

/-- ITS FALSE NEIGHBOUR: 'it returns false'. Refute it at one input. -/
def robinMatchesWrong : ChangeSpec := { name := "robinMatches", fn := fun _ => fun
  | [d1, d2] => { results := [.lit (.bool false)], args := [d1, d2] }
  | _ => none }
def RobinMatchesWrongFalsely : Prop := robinMatchesRow.holds Try.pinned (OpenSpec.ofChange robinMatchesWrong)

/-- 'pangramlaw12.UnifyFirst': WHATEVER THE INPUT: true; the input reads as it did. -/
def unifyFirstSpec : ChangeSpec := { name := "unifyFirst", fn := fun _ => fun
  | [d] => { results := [.lit (.bool true)], args := [d] }
  | _ => none }
def unifyFirstRow : OpenClaim := { program := "ytohdoloalolpfaa", sum := "4805695cccc8d0d9c58f7c8a20d62737ee139dd4d664e4a699811712010f59ea", func := "pangram/pangramlaw12.UnifyFirst", spec := "unifyFirst", unfollowed := true, recurses := true, loops := true, apart := false }
def UnifyFirstSaid : Prop := unifyFirstRow.holds Try.pinned (OpenSpec.ofChange unifyFirstSpec)

/-- ITS FALSE NEIGHBOUR: 'it returns false'. Refute it at one input. -/
def unifyFirstWrong : ChangeSpec := { name := "unifyFirst", fn := fun _ => fun
  | [d] => { results := [.lit (.bool false)], args := [d] }
  | _ => none }
def UnifyFirstWrongFalsely : Prop := unifyFirstRow.holds Try.pinned (OpenSpec.ofChange unifyFirstWrong)

/-- 'pangramlaw12.UnifyMore': WHATEVER THE INPUT: true; the input reads as it did. -/
def unifyMoreSpec : ChangeSpec := { name := "unifyMore", fn := fun _ => fun
  | [d1, d2] => { results := [.lit (.bool true)], args := [d1, d2] }
  | _ => none }
def unifyMoreRow : OpenClaim := { program := "ytohdoloalolpfaa", sum := "4805695cccc8d0d9c58f7c8a20d62737ee139dd4d664e4a699811712010f59ea", func := "pangram/pangramlaw12.UnifyMore", spec := "unifyMore", unfollowed := true, recurses := true, loops := true, apart := false }
def UnifyMoreSaid : Prop := unifyMoreRow.holds Try.pinned (OpenSpec.ofChange unifyMoreSpec)

/-- ITS FALSE NEIGHBOUR: 'it returns false'. Refute it at one input. -/
def unifyMoreWrong : ChangeSpec := { name := "unifyMore", fn := fun _ => fun
  | [d1, d2] => { results := [.lit (.bool false)], args := [d1, d2] }
  | _ => none }
def UnifyMoreWrongFalsely : Prop := unifyMoreRow.holds Try.pinned (OpenSpec.ofChange unifyMoreWrong)

/-- 'pangramlaw12.UnifyOrder': WHATEVER THE INPUT: true; the input reads as it did. -/
def unifyOrderSpec : ChangeSpec := { name := "unifyOrder", fn := fun _ => fun
  | [d1, d2] => { results := [.lit (.bool true)], args := [d1, d2] }
  | _ => none }
def unifyOrderRow : OpenClaim := { program := "ytohdoloalolpfaa", sum := "4805695cccc8d0d9c58f7c8a20d62737ee139dd4d664e4a699811712010f59ea", func := "pangram/pangramlaw12.UnifyOrder", spec := "unifyOrder", unfollowed := true, recurses := true, loops := true, apart := false }
def UnifyOrderSaid : Prop := unifyOrderRow.holds Try.pinned (OpenSpec.ofChange unifyOrderSpec)

/-- ITS FALSE NEIGHBOUR: 'it returns false'. Refute it at one input. -/
def unifyOrderWrong : ChangeSpec := { name := "unifyOrder", fn := fun _ => fun
  | [d1, d2] => { results := [.lit (.bool false)], args := [d1, d2] }
  | _ => none }
def UnifyOrderWrongFalsely : Prop := unifyOrderRow.holds Try.pinned (OpenSpec.ofChange unifyOrderWrong)

/- THE SECOND FORM. 'bulk': how many values and letters a reading holds, each counted each time it is reached (what is shared counts as often as it is met; a slice's spare places count too). A statement '..UptoSaid' is the law's where the arguments, and the package variables that the reading takes, are together of bulk at most 1048576: NARROWER than '..Said'. Prove '..Said' where nothing that the law and all that it calls make is longer than what came in: it says more and counts as full. Else prove '..UptoSaid'. A law counts once. -/
mutual
def uptoBulk {H : Type} : DataW H → Nat
  | .lit (.string bytes) => bytes.length + 1
  | .lit _ => 1
  | .nil => 1
  | .ptr d => uptoBulk d + 1
  | .slice elems spare => uptoBulkAll elems + uptoBulkAll spare + 1
  | .agg parts => uptoBulkAll parts + 1
  | .iface _ d => uptoBulk d + 1
  | .map entries => uptoBulkEntries entries + 1
  | .held _ => 1
def uptoBulkAll {H : Type} : List (DataW H) → Nat
  | [] => 0
  | d :: r => uptoBulk d + uptoBulkAll r
def uptoBulkEntries {H : Type} : List (Lit × DataW H) → Nat
  | [] => 0
  | x :: r => uptoBulkEntry x + uptoBulkEntries r
def uptoBulkEntry {H : Type} : Lit × DataW H → Nat
  | (.string bytes, d) => bytes.length + uptoBulk d + 1
  | (_, d) => uptoBulk d + 1
 end
def uptoSmall : (H : Type) → List (DataW H) → Bool := fun _ ds => decide (uptoBulkAll ds ≤ 1048576)
def OpenSpec.upto (s : _root_.Go.ChangeSpec) : _root_.Go.OpenSpec := { _root_.Go.OpenSpec.ofChange s with cond := some uptoSmall }

/-- 'pangramlaw11.GraphTypes', WHERE WHAT IT READS IS OF BULK AT MOST 1048576: true; the input reads as it did. -/
def graphTypesUptoRow : OpenClaim := { program := "ytohdoloalolpfaa", sum := "4805695cccc8d0d9c58f7c8a20d62737ee139dd4d664e4a699811712010f59ea", func := "pangram/pangramlaw11.GraphTypes", spec := "graphTypes", unfollowed := true, recurses := true, loops := true, apart := false, narrowed := true }
def GraphTypesUptoSaid : Prop := graphTypesUptoRow.holds Try.pinned (OpenSpec.upto graphTypesSpec)

/-- 'pangramlaw11.GraphKeeps', WHERE WHAT IT READS IS OF BULK AT MOST 1048576: true; the input reads as it did. -/
def graphKeepsUptoRow : OpenClaim := { program := "ytohdoloalolpfaa", sum := "4805695cccc8d0d9c58f7c8a20d62737ee139dd4d664e4a699811712010f59ea", func := "pangram/pangramlaw11.GraphKeeps", spec := "graphKeeps", unfollowed := true, recurses := true, loops := true, apart := false, narrowed := true }
def GraphKeepsUptoSaid : Prop := graphKeepsUptoRow.holds Try.pinned (OpenSpec.upto graphKeepsSpec)

/-- 'pangramlaw11.GraphAdds', WHERE WHAT IT READS IS OF BULK AT MOST 1048576: true; the input reads as it did. -/
def graphAddsUptoRow : OpenClaim := { program := "ytohdoloalolpfaa", sum := "4805695cccc8d0d9c58f7c8a20d62737ee139dd4d664e4a699811712010f59ea", func := "pangram/pangramlaw11.GraphAdds", spec := "graphAdds", unfollowed := true, recurses := true, loops := true, apart := false, narrowed := true }
def GraphAddsUptoSaid : Prop := graphAddsUptoRow.holds Try.pinned (OpenSpec.upto graphAddsSpec)

/-- 'pangramlaw11.GraphNone', WHERE WHAT IT READS IS OF BULK AT MOST 1048576: true; the input reads as it did. -/
def graphNoneUptoRow : OpenClaim := { program := "ytohdoloalolpfaa", sum := "4805695cccc8d0d9c58f7c8a20d62737ee139dd4d664e4a699811712010f59ea", func := "pangram/pangramlaw11.GraphNone", spec := "graphNone", unfollowed := true, recurses := true, loops := true, apart := false, narrowed := true }
def GraphNoneUptoSaid : Prop := graphNoneUptoRow.holds Try.pinned (OpenSpec.upto graphNoneSpec)

/-- 'pangramlaw15.RobinMatches', WHERE WHAT IT READS IS OF BULK AT MOST 1048576: true; the input reads as it did. -/
def robinMatchesUptoRow : OpenClaim := { program := "ytohdoloalolpfaa", sum := "4805695cccc8d0d9c58f7c8a20d62737ee139dd4d664e4a699811712010f59ea", func := "pangram/pangramlaw15.RobinMatches", spec := "robinMatches", unfollowed := true, recurses := true, loops := true, apart := false, narrowed := true }
def RobinMatchesUptoSaid : Prop := robinMatchesUptoRow.holds Try.pinned (OpenSpec.upto robinMatchesSpec)

/-- 'pangramlaw12.UnifyFirst', WHERE WHAT IT READS IS OF BULK AT MOST 1048576: true; the input reads as it did. -/
def unifyFirstUptoRow : OpenClaim := { program := "ytohdoloalolpfaa", sum := "4805695cccc8d0d9c58f7c8a20d62737ee139dd4d664e4a699811712010f59ea", func := "pangram/pangramlaw12.UnifyFirst", spec := "unifyFirst", unfollowed := true, recurses := true, loops := true, apart := false, narrowed := true }
def UnifyFirstUptoSaid : Prop := unifyFirstUptoRow.holds Try.pinned (OpenSpec.upto unifyFirstSpec)

/-- 'pangramlaw12.UnifyMore', WHERE WHAT IT READS IS OF BULK AT MOST 1048576: true; the input reads as it did. -/
def unifyMoreUptoRow : OpenClaim := { program := "ytohdoloalolpfaa", sum := "4805695cccc8d0d9c58f7c8a20d62737ee139dd4d664e4a699811712010f59ea", func := "pangram/pangramlaw12.UnifyMore", spec := "unifyMore", unfollowed := true, recurses := true, loops := true, apart := false, narrowed := true }
def UnifyMoreUptoSaid : Prop := unifyMoreUptoRow.holds Try.pinned (OpenSpec.upto unifyMoreSpec)

/-- 'pangramlaw12.UnifyOrder', WHERE WHAT IT READS IS OF BULK AT MOST 1048576: true; the input reads as it did. -/
def unifyOrderUptoRow : OpenClaim := { program := "ytohdoloalolpfaa", sum := "4805695cccc8d0d9c58f7c8a20d62737ee139dd4d664e4a699811712010f59ea", func := "pangram/pangramlaw12.UnifyOrder", spec := "unifyOrder", unfollowed := true, recurses := true, loops := true, apart := false, narrowed := true }
def UnifyOrderUptoSaid : Prop := unifyOrderUptoRow.holds Try.pinned (OpenSpec.upto unifyOrderSpec)

end Rows
end Go.Proofs.Ytohdoloalolpfaa
