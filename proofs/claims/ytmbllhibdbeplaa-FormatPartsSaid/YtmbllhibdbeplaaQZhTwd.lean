/- Pruned: ZhTwd. -/
import Derived.Test.YtmbllhibdbeplaaQE2
set_option linter.unusedSimpArgs false
set_option linter.unusedVariables false
namespace Go.Ev
abbrev F2 := Fin Pp × Fin Pp
abbrev F6 := F2 × F2 × F2
def m2 (a : F2) : List Ch := [.m a.1, .m a.2]
def q2 (a : F2) : List Ch := [.q a.1, .q a.2]
def add2 (a b : F2) : F2 := (a.1 + b.1, a.2 + b.2)
def sub2 (a b : F2) : F2 := (a.1 - b.1, a.2 - b.2)
def mul2 (a b : F2) : F2 := (a.1 * b.1 - a.2 * b.2, (a.1 + a.2) * (b.1 + b.2) - a.1 * b.1 - a.2 * b.2)
def shf2 (a : F2) : F2 := (a.1 - a.2, a.1 + a.2)
def add6 (a b : F6) : F6 := (add2 a.1 b.1, add2 a.2.1 b.2.1, add2 a.2.2 b.2.2)
def mul6 (a b : F6) : F6 :=
  let x := mul2 a.1 b.1
  let y := mul2 a.2.1 b.2.1
  let z := mul2 a.2.2 b.2.2
  let xy := sub2 (sub2 (mul2 (add2 a.1 a.2.1) (add2 b.1 b.2.1)) x) y
  let xz := sub2 (sub2 (mul2 (add2 a.1 a.2.2) (add2 b.1 b.2.2)) x) z
  let yz := sub2 (sub2 (mul2 (add2 a.2.1 a.2.2) (add2 b.2.1 b.2.2)) y) z
  (add2 x (shf2 yz), add2 xy (shf2 z), add2 xz y)
abbrev N2 := Nat × Nat
def of2 (a : N2) : F2 := (ofP a.1, ofP a.2)
def small (a : Nat) : Prop := a < 39402006196394479212279040100143613805079739270465446667948293404245721771497210611414266254884915640806627990306816
def neg2 (a : F2) : F2 := (-a.1, -a.2)
def sub6 (a b : F6) : F6 := (sub2 a.1 b.1, sub2 a.2.1 b.2.1, sub2 a.2.2 b.2.2)
def neg6 (a : F6) : F6 := (neg2 a.1, neg2 a.2.1, neg2 a.2.2)
def n2 (a : N2) : List Ch := [.n 6 a.1, .n 6 a.2]
def one2 : F2 := (1, 0)
def one6 : F6 := (one2, (0, 0), (0, 0))
end Go.Ev
