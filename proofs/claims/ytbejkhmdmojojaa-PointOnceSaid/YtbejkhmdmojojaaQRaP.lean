/- Pruned: RaP. -/
import Derived.Test.YtbejkhmdmojojaaQElP
import Derived.Test.YtbejkhmdmojojaaQNum
set_option linter.unusedSimpArgs false
set_option linter.unusedVariables false
namespace Go.Proofs.Ytbejkhmdmojojaa
open Go.Ev Go.RowKit

structure minusPY (a b : Nat) where
  i : Nat
  β : Nat
  o : Nat
  hi : i ≤ 6
  inv : mInv a b i β o
structure plusPY (a b : Nat) where
  i : Nat
  β : Nat
  o : Nat
  hi : i ≤ 6
  inv : pInv a b i β o
end Go.Proofs.Ytbejkhmdmojojaa
