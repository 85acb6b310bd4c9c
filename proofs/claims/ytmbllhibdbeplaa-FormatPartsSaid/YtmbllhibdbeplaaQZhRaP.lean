/- Pruned: ZhRaP. -/
import Derived.Test.YtmbllhibdbeplaaQZhElP
import Derived.Test.YtmbllhibdbeplaaQE2
set_option linter.unusedSimpArgs false
set_option linter.unusedVariables false
namespace Go.Proofs.Ytmbllhibdbeplaa
open Go.Ev Go.RowKit

structure minusPY (a b : Nat) where
  i : Nat
  β : Nat
  o : Nat
  hi : i ≤ 6
  inv : mInv a b i β o
structure plusPY (a b : Nat) where
  i : Nat
  β : Nat
  o : Nat
  hi : i ≤ 6
  inv : pInv a b i β o
end Go.Proofs.Ytmbllhibdbeplaa
