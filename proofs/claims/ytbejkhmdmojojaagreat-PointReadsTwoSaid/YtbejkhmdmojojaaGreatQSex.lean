/- Pruned: Sex. -/
import Derived.Test.YtbejkhmdmojojaaGreatQTow
set_option linter.unusedSimpArgs false
set_option linter.unusedVariables false
namespace Go.Proofs.YtbejkhmdmojojaaGreat
open Go.Ev Go.RowKit

end Go.Proofs.YtbejkhmdmojojaaGreat
