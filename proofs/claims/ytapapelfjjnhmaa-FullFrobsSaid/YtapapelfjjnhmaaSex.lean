/- Contracts of the layer sext: sums, products, shifts. -/
import Derived.Test.YtapapelfjjnhmaaTow
set_option linter.unusedSimpArgs false
set_option linter.unusedVariables false
namespace Go.Proofs.Ytapapelfjjnhmaa
open Go.Ev Go.RowKit

end Go.Proofs.Ytapapelfjjnhmaa
