/- Pruned: Gb. -/
import Derived.Test.YtoigbjimhcgolaaQGa
/- Bytes of numbers, the highest first, and back. Nothing here names a program. -/
set_option linter.unusedSimpArgs false
set_option linter.unusedVariables false
namespace Go.Ev
/-- A byte of a string; 0 behind it. -/
def byt (l : List UInt8) (i : Nat) : Nat := ((ofL l)[i]?.getD 0).toNat
/-- The number that m bytes from k times 8 on make. -/
def pre (l : List UInt8) (k : Nat) : Nat → Nat
  | 0 => 0
  | m + 1 => pre l k m * 256 + byt l (8 * k + m)
/-! ### One byte of a limb -/
/-! ### Limbs out of bytes -/
end Go.Ev
