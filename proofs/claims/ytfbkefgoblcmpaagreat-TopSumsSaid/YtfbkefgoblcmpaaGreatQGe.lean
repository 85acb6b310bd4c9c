/- Pruned: Ge. -/
import Derived.Test.YtfbkefgoblcmpaaGreatQGc
set_option linter.unusedSimpArgs false
set_option linter.unusedVariables false
namespace Go.Proofs.YtfbkefgoblcmpaaGreat
open Go.Ev Go.RowKit
def hpC (c : Nat) (r : LU0) : List Ch := [.c (.int .u8 (c : Int)), .y r]
def hv (c : Nat) (r : LU0) (i : Nat) : Nat := ((c :: r.map UInt8.toNat)[i]?).getD 0
end Go.Proofs.YtfbkefgoblcmpaaGreat
set_option linter.unusedSimpArgs false
set_option linter.unusedVariables false
namespace Go.Proofs.YtfbkefgoblcmpaaGreat
open Go.Ev Go.RowKit
def nX (l : LU0) : Nat := deN 48 ((BR l).take 48)
def nY (l : LU0) : Nat := deN 48 (((BR l).drop 48).take 48)
def sy1 (a : Fin Pp) (high : Bool) : Fin Pp := match high with | true => -(XT (rtP a)) | false => XT (rtP a)
def sh1 (l : LU0) : Prop := l.length = 48 /\ (FT l = 4 ∨ FT l = 5)
def lo1 (l : LU0) : Prop := l.length = 96 /\ FT l = 0
end Go.Proofs.YtfbkefgoblcmpaaGreat
