/-
  NARROWER THAN 'FOR EVERY INPUT', by the rows' own cells (each row's printed sentence says how): CycleFinds: loops · CycleTells: loops.
  DERIVED. THE GIVEN ROWS OF THIS SEAT. 2 by the template 'for every input the law returns true; each argument reads behind the call as it read before'; 0 by the template 'total and deterministic' (their statements: YtjjjckjebkmnjaaGreatTotals.lean).
  GIVEN WITH THE SEED: the statements are not yours to turn. If you find one false, say at which input.
  Laid BY PROGRAM, IN A SANDBOX (cutbox-rows.mjs): the forced cells as the released guide's own fill.sh prints them over the translation 3a3ea57bd43c1636… (all of the seat's roots in one cut). By AI agents, Wed Nov 11 2026. No macro, syntax, notation, axiom, sorry.
-/
import Derived.Test.YtjjjckjebkmnjaaGreatChecked
import GoSem.Claim
import GoSem.ClaimJoined
import GoSem.ClaimMapViews
import Derived.JoinedTies
import Derived.KernelRfl
namespace Go.Proofs.YtjjjckjebkmnjaaGreat
/- THE CELL 'sum', in the pinned program and in every row, IS THE sha256 OF THE DUMP (.gsa) THAT YtjjjckjebkmnjaaGreatProg.lean LOADS. Nothing in Lean hashes anything: it is a label: what it is worth is what the hold of that sum in a sandbox is worth. -/
noncomputable def Tryz.pinned : Pinned := { name := "ytjjjckjebkmnjaagreat", sum := "3a3ea57bd43c1636774b76936f8f67cbacb04a860a9181b3b7b1da80e93b27c2", checked := Tryz.checked }
namespace Rows
def none {H : Type} : Left H := { results := [], args := [] }

/-- 'pangramlaw13.CycleFinds': WHATEVER THE INPUT: true; the input reads as it did. -/
def cycleFindsSpec : ChangeSpec := { name := "cycleFinds", fn := fun _ => fun
  | [d] => { results := [.lit (.bool true)], args := [d] }
  | _ => none }
def cycleFindsRow : OpenClaim := { program := "ytjjjckjebkmnjaagreat", sum := "3a3ea57bd43c1636774b76936f8f67cbacb04a860a9181b3b7b1da80e93b27c2", func := "pangram/pangramlaw13.CycleFinds", spec := "cycleFinds", unfollowed := true, recurses := true, loops := true, apart := false }
def CycleFindsSaid : Prop := cycleFindsRow.holds Tryz.pinned (OpenSpec.ofChange cycleFindsSpec)

/-- ITS FALSE NEIGHBOUR: 'it returns false'. Refute it at one input. -/
def cycleFindsWrong : ChangeSpec := { name := "cycleFinds", fn := fun _ => fun
  | [d] => { results := [.lit (.bool false)], args := [d] }
  | _ => none }
def CycleFindsWrongFalsely : Prop := cycleFindsRow.holds Tryz.pinned (OpenSpec.ofChange cycleFindsWrong)

/-- 'pangramlaw13.CycleTells': WHATEVER THE INPUT: true; the input reads as it did. -/
def cycleTellsSpec : ChangeSpec := { name := "cycleTells", fn := fun _ => fun
  | [d1, d2] => { results := [.lit (.bool true)], args := [d1, d2] }
  | _ => none }
def cycleTellsRow : OpenClaim := { program := "ytjjjckjebkmnjaagreat", sum := "3a3ea57bd43c1636774b76936f8f67cbacb04a860a9181b3b7b1da80e93b27c2", func := "pangram/pangramlaw13.CycleTells", spec := "cycleTells", unfollowed := true, recurses := true, loops := true, apart := false }
def CycleTellsSaid : Prop := cycleTellsRow.holds Tryz.pinned (OpenSpec.ofChange cycleTellsSpec)

/-- ITS FALSE NEIGHBOUR: 'it returns false'. Refute it at one input. -/
def cycleTellsWrong : ChangeSpec := { name := "cycleTells", fn := fun _ => fun
  | [d1, d2] => { results := [.lit (.bool false)], args := [d1, d2] }
  | _ => none }
def CycleTellsWrongFalsely : Prop := cycleTellsRow.holds Tryz.pinned (OpenSpec.ofChange cycleTellsWrong)

/- THE SECOND FORM. 'bulk': how many values and letters a reading holds, each counted each time it is reached (what is shared counts as often as it is met; a slice's spare places count too). A statement '..UptoSaid' is the law's where the arguments, and the package variables that the reading takes, are together of bulk at most 1048576: NARROWER than '..Said'. Prove '..Said' where nothing that the law and all that it calls make is longer than what came in: it says more and counts as full. Else prove '..UptoSaid'. A law counts once. -/
mutual
def uptoBulk {H : Type} : DataW H → Nat
  | .lit (.string bytes) => bytes.length + 1
  | .lit _ => 1
  | .nil => 1
  | .ptr d => uptoBulk d + 1
  | .slice elems spare => uptoBulkAll elems + uptoBulkAll spare + 1
  | .agg parts => uptoBulkAll parts + 1
  | .iface _ d => uptoBulk d + 1
  | .map entries => uptoBulkEntries entries + 1
  | .held _ => 1
def uptoBulkAll {H : Type} : List (DataW H) → Nat
  | [] => 0
  | d :: r => uptoBulk d + uptoBulkAll r
def uptoBulkEntries {H : Type} : List (Lit × DataW H) → Nat
  | [] => 0
  | x :: r => uptoBulkEntry x + uptoBulkEntries r
def uptoBulkEntry {H : Type} : Lit × DataW H → Nat
  | (.string bytes, d) => bytes.length + uptoBulk d + 1
  | (_, d) => uptoBulk d + 1
 end
def uptoSmall : (H : Type) → List (DataW H) → Bool := fun _ ds => decide (uptoBulkAll ds ≤ 1048576)
def OpenSpec.upto (s : _root_.Go.ChangeSpec) : _root_.Go.OpenSpec := { _root_.Go.OpenSpec.ofChange s with cond := some uptoSmall }

/-- 'pangramlaw13.CycleFinds', WHERE WHAT IT READS IS OF BULK AT MOST 1048576: true; the input reads as it did. -/
def cycleFindsUptoRow : OpenClaim := { program := "ytjjjckjebkmnjaagreat", sum := "3a3ea57bd43c1636774b76936f8f67cbacb04a860a9181b3b7b1da80e93b27c2", func := "pangram/pangramlaw13.CycleFinds", spec := "cycleFinds", unfollowed := true, recurses := true, loops := true, apart := false, narrowed := true }
def CycleFindsUptoSaid : Prop := cycleFindsUptoRow.holds Tryz.pinned (OpenSpec.upto cycleFindsSpec)

/-- 'pangramlaw13.CycleTells', WHERE WHAT IT READS IS OF BULK AT MOST 1048576: true; the input reads as it did. -/
def cycleTellsUptoRow : OpenClaim := { program := "ytjjjckjebkmnjaagreat", sum := "3a3ea57bd43c1636774b76936f8f67cbacb04a860a9181b3b7b1da80e93b27c2", func := "pangram/pangramlaw13.CycleTells", spec := "cycleTells", unfollowed := true, recurses := true, loops := true, apart := false, narrowed := true }
def CycleTellsUptoSaid : Prop := cycleTellsUptoRow.holds Tryz.pinned (OpenSpec.upto cycleTellsSpec)

end Rows
end Go.Proofs.YtjjjckjebkmnjaaGreat
