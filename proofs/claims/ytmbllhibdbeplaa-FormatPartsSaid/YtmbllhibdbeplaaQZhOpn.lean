/- Pruned: ZhOpn. -/
import Derived.Test.YtmbllhibdbeplaaQE2
import Derived.ProofKit
import Derived.OpenShut
import Derived.DataShut
set_option linter.unusedSimpArgs false
set_option linter.unusedVariables false
namespace Go.Ev
open Go.ChangeShapes Go.WideShapes Go.ChangeAt Go.RowKit

section
variable {H : Type} {enc : TypeId × Value → H} {P : Program} {w w' : World} {base base' : Nat} {spare spare' : Nat → Bool} {held held' : Bool}

end

end Go.Ev
