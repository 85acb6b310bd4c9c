/- Pruned: ZhRts2. -/
import Derived.Test.YtmbllhibdbeplaaQZhRts
set_option linter.unusedSimpArgs false
set_option linter.unusedVariables false
namespace Go.Ev

def hi2 (a : F2) : Prop := if a.2 = 0 then hiP a.1 else hiP a.2
instance (a : F2) : Decidable (hi2 a) := inferInstanceAs (Decidable (if a.2 = 0 then hiP a.1 else hiP a.2))
def low2 (a : F2) : F2 := if hi2 a then neg2 a else a
def sq2 (a : F2) : Prop := sqP (norm2 a)
def invE (x : Fin Pp) : Fin Pp := pwP x 4002409555221667393417789825735904156556882819939007885332058136124031650490837864442687629129015664037894272559785
def halfE : Fin Pp := invE (ofP (2 % 18446744073709551616))
def nrt (a : F2) : Fin Pp := lowP (rtP (norm2 a))
def tOne (a : F2) : Fin Pp := (a.1 + nrt a) * halfE
def tTwo (a : F2) : Fin Pp := (a.1 - nrt a) * halfE
def part2 (a : F2) (t : Fin Pp) : F2 := (lowP (rtP t), a.2 * halfE * invE (lowP (rtP t)))
def root2 (a : F2) : F2 :=
  if a.2 = 0 then (if sqP a.1 then (lowP (rtP a.1), 0) else (0, lowP (rtP (-a.1))))
  else if sqP (tOne a) then part2 a (tOne a) else part2 a (tTwo a)
def rt2 (a : F2) : F2 := low2 (root2 a)

end Go.Ev
