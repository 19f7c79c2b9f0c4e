/- The example of layer 15 answers true: its call is run in the abstract walk. Conditions: none. -/
import Derived.Test.YtohdoloalolpfaaAb19
import Derived.Test.YtohdoloalolpfaaFx
namespace Go.Proofs.Ytohdoloalolpfaa
open Go Go.RowKit
set_option maxRecDepth 1000000
theorem awake15_e : ePure Try.prog 50 30 29 [] (.v (.bool true)) = true := by kernel_rfl
theorem awake15_pure : APure Try.prog 29 [] (.v (.bool true)) := ePure_sound mixed awake15_e
end Go.Proofs.Ytohdoloalolpfaa
