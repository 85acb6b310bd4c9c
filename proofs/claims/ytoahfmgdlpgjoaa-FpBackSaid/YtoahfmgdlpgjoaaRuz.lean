/- All rules. Nothing here names a program. -/
import Derived.Test.YtoahfmgdlpgjoaaRuy
set_option linter.unusedSimpArgs false
set_option linter.unusedVariables false
namespace Go.Ev
open Go.RowKit
def rulesX (P : Program) : Rules P := { q := [qStr P, qIdx P, qLim P, qShr P], x := [xApp P], d := some (xAppB P) }
end Go.Ev
