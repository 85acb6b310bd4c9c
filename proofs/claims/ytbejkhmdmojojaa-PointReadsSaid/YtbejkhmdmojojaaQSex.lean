/- Pruned: Sex. -/
import Derived.Test.YtbejkhmdmojojaaQTow
set_option linter.unusedSimpArgs false
set_option linter.unusedVariables false
namespace Go.Proofs.Ytbejkhmdmojojaa
open Go.Ev Go.RowKit

end Go.Proofs.Ytbejkhmdmojojaa
