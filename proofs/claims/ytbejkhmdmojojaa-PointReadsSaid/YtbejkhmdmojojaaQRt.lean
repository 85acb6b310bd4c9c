/- Pruned: Rt. -/
import Derived.Test.YtbejkhmdmojojaaQTo2
import Derived.Test.YtbejkhmdmojojaaQRmP
import Derived.Test.YtbejkhmdmojojaaQAl3
set_option linter.unusedSimpArgs false
set_option linter.unusedVariables false
namespace Go.Proofs.Ytbejkhmdmojojaa
open Go.Ev Go.RowKit

end Go.Proofs.Ytbejkhmdmojojaa
