/- The towers' sums and products, as the program forms them, over the field of order p. Nothing here names a program. -/
import Derived.Test.YtoahfmgdlpgjoaaNum
set_option linter.unusedSimpArgs false
set_option linter.unusedVariables false
namespace Go.Ev
abbrev F2 := Fin Pp × Fin Pp
abbrev F6 := F2 × F2 × F2
def m2 (a : F2) : List Ch := [.m a.1, .m a.2]
def q2 (a : F2) : List Ch := [.q a.1, .q a.2]
def m6 (a : F6) : List Ch := [.m a.1.1, .m a.1.2, .m a.2.1.1, .m a.2.1.2, .m a.2.2.1, .m a.2.2.2]
def q6 (a : F6) : List Ch := [.q a.1.1, .q a.1.2, .q a.2.1.1, .q a.2.1.2, .q a.2.2.1, .q a.2.2.2]
def add2 (a b : F2) : F2 := (a.1 + b.1, a.2 + b.2)
def sub2 (a b : F2) : F2 := (a.1 - b.1, a.2 - b.2)
def mul2 (a b : F2) : F2 := (a.1 * b.1 - a.2 * b.2, (a.1 + a.2) * (b.1 + b.2) - a.1 * b.1 - a.2 * b.2)
def shf2 (a : F2) : F2 := (a.1 - a.2, a.1 + a.2)
def add6 (a b : F6) : F6 := (add2 a.1 b.1, add2 a.2.1 b.2.1, add2 a.2.2 b.2.2)
def mul6 (a b : F6) : F6 :=
  let x := mul2 a.1 b.1
  let y := mul2 a.2.1 b.2.1
  let z := mul2 a.2.2 b.2.2
  let xy := sub2 (sub2 (mul2 (add2 a.1 a.2.1) (add2 b.1 b.2.1)) x) y
  let xz := sub2 (sub2 (mul2 (add2 a.1 a.2.2) (add2 b.1 b.2.2)) x) z
  let yz := sub2 (sub2 (mul2 (add2 a.2.1 a.2.2) (add2 b.2.1 b.2.2)) y) z
  (add2 x (shf2 yz), add2 xy (shf2 z), add2 xz y)
def shf6 (a : F6) : F6 := (shf2 a.2.2, a.1, a.2.1)

def parM2 : Par F2 := parM.pair parM
def parM6 : Par F6 := parM2.pair (parM2.pair parM2)
abbrev N2 := Nat × Nat
abbrev N6 := N2 × N2 × N2
def parQ2 : Par F2 := parQs.pair parQs
def parQ6 : Par F6 := parQ2.pair (parQ2.pair parQ2)
def parN2 : Par N2 := parN6.pair parN6
def parN66 : Par N6 := parN2.pair (parN2.pair parN2)
def of2 (a : N2) : F2 := (ofP a.1, ofP a.2)
def of6 (a : N6) : F6 := (of2 a.1, of2 a.2.1, of2 a.2.2)
def small (a : Nat) : Prop := a < 39402006196394479212279040100143613805079739270465446667948293404245721771497210611414266254884915640806627990306816
def small2 (a : N2) : Prop := small a.1 ∧ small a.2
def small6 (a : N6) : Prop := small2 a.1 ∧ small2 a.2.1 ∧ small2 a.2.2
def n6 (a : N6) : List Ch := [.n 6 a.1.1, .n 6 a.1.2, .n 6 a.2.1.1, .n 6 a.2.1.2, .n 6 a.2.2.1, .n 6 a.2.2.2]

def par6 : XPar (F6 ⊕ N6) := XPar.or parQ6.x parN66.x
def el6 : F6 ⊕ N6 → F6
  | .inl a => a
  | .inr a => of6 a
def sm6 : F6 ⊕ N6 → Prop
  | .inl _ => True
  | .inr a => small6 a
def par2 : XPar (F2 ⊕ N2) := XPar.or parQ2.x parN2.x
def el2 : F2 ⊕ N2 → F2
  | .inl a => a
  | .inr a => of2 a
def sm2 : F2 ⊕ N2 → Prop
  | .inl _ => True
  | .inr a => small2 a


def neg2 (a : F2) : F2 := (-a.1, -a.2)
def conj2 (a : F2) : F2 := (a.1, -a.2)
def sub6 (a b : F6) : F6 := (sub2 a.1 b.1, sub2 a.2.1 b.2.1, sub2 a.2.2 b.2.2)
def neg6 (a : F6) : F6 := (neg2 a.1, neg2 a.2.1, neg2 a.2.2)
abbrev F12 := F6 × F6
abbrev N12 := N6 × N6
def m12 (a : F12) : List Ch := m6 a.1 ++ m6 a.2
def q12 (a : F12) : List Ch := q6 a.1 ++ q6 a.2
def n2 (a : N2) : List Ch := [.n 6 a.1, .n 6 a.2]
def n12 (a : N12) : List Ch := n6 a.1 ++ n6 a.2
def parM12 : Par F12 := parM6.pair parM6
def parQ12 : Par F12 := parQ6.pair parQ6
def parN12 : Par N12 := parN66.pair parN66
/-- Elements, or cells that are written out. -/
def parL2 : Par F2 := parQ.pair parQ
def parL6 : Par F6 := parL2.pair (parL2.pair parL2)
def parL12 : Par F12 := parL6.pair parL6
def of12 (a : N12) : F12 := (of6 a.1, of6 a.2)
def small12 (a : N12) : Prop := small6 a.1 ∧ small6 a.2
def add12 (a b : F12) : F12 := (add6 a.1 b.1, add6 a.2 b.2)
def sub12 (a b : F12) : F12 := (sub6 a.1 b.1, sub6 a.2 b.2)
def neg12 (a : F12) : F12 := (neg6 a.1, neg6 a.2)
def conj12 (a : F12) : F12 := (a.1, neg6 a.2)
def mul12 (a b : F12) : F12 :=
  let x := mul6 a.1 b.1
  let y := mul6 a.2 b.2
  let z := mul6 (add6 a.1 a.2) (add6 b.1 b.2)
  (add6 x (shf6 y), sub6 (sub6 z x) y)
def one2 : F2 := (1, 0)
def one6 : F6 := (one2, (0, 0), (0, 0))
def one12 : F12 := (one6, ((0, 0), (0, 0), (0, 0)))
def par12 : XPar (F12 ⊕ N12) := XPar.or parQ12.x parN12.x
def el12 : F12 ⊕ N12 → F12
  | .inl a => a
  | .inr a => of12 a
def sm12 : F12 ⊕ N12 → Prop
  | .inl _ => True
  | .inr a => small12 a
end Go.Ev
