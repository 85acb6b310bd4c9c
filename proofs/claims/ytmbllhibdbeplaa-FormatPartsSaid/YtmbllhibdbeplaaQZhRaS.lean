/- Pruned: ZhRaS. -/
import Derived.Test.YtmbllhibdbeplaaQZhElS
import Derived.Test.YtmbllhibdbeplaaQE2
set_option linter.unusedSimpArgs false
set_option linter.unusedVariables false
namespace Go.Proofs.Ytmbllhibdbeplaa
open Go.Ev Go.RowKit

structure minusSY (a b : Nat) where
  i : Nat
  β : Nat
  o : Nat
  hi : i ≤ 4
  inv : mInv a b i β o
structure plusSY (a b : Nat) where
  i : Nat
  β : Nat
  o : Nat
  hi : i ≤ 4
  inv : pInv a b i β o
end Go.Proofs.Ytmbllhibdbeplaa
