/- Contracts of the layer sext: sums, products, shifts. -/
import Derived.Test.YtbejkhmdmojojaaTow
set_option linter.unusedSimpArgs false
set_option linter.unusedVariables false
namespace Go.Proofs.Ytbejkhmdmojojaa
open Go.Ev Go.RowKit

end Go.Proofs.Ytbejkhmdmojojaa
