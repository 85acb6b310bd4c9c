/- Pruned: To2. -/
import Derived.Test.YtbejkhmdmojojaaQTow
import Derived.Test.YtbejkhmdmojojaaQSex
import Derived.Test.YtbejkhmdmojojaaQRbP
set_option linter.unusedSimpArgs false
set_option linter.unusedVariables false
namespace Go.Proofs.Ytbejkhmdmojojaa
open Go.Ev Go.RowKit

end Go.Proofs.Ytbejkhmdmojojaa
