/- Contracts of the reference of the field of order r on elements, and of the layer fr: remainders, sums, differences, negatives, products. -/
import Derived.Test.YtmbllhibdbeplaaRaS
import Derived.Test.YtmbllhibdbeplaaInS
set_option linter.unusedSimpArgs false
set_option linter.unusedVariables false
namespace Go.Proofs.Ytmbllhibdbeplaa
open Go.Ev Go.RowKit

def clSI (y : Nat) : LState := { n := 11, sl := [(1, .p 0 0), (2, .p 1 0)], hp := [(0, .own [.n 4 y] 32), (1, .own [.c (.int .u64 0), .c (.int .u64 0), .c (.int .u64 0), .c (.int .u64 0)] 32)] }
def clSZ (x : Fin Rr) : LState := { n := 11, sl := [(1, .p 0 0), (2, .p 1 0)], hp := [(0, .own [.e x] 32), (1, .own [.c (.int .u64 0), .c (.int .u64 0), .c (.int .u64 0), .c (.int .u64 0)] 32)] }
theorem ne_zerosS {x : Fin Rr} (h : x ≠ 0) : ¬ flat [.e x] = flat [.c (.int .u64 0), .c (.int .u64 0), .c (.int .u64 0), .c (.int .u64 0)] := fun e => h (by
  have := limbs_inj 4 x.val 0 (Nat.lt_trans x.isLt (by decide)) (by decide) (by simpa [flat, Ch.cells, limbs] using e)
  exact Fin.ext this)
def eFCleanS : Entry := entry1 61 par1S (fun a => [(some (smtS a), .ag [.e (eltS a)])])
theorem eFCleanS_ok : eFCleanS.OK Try.prog := entry1_ok (fun args w => Go.Proofs.enters_of (P := Try.prog) Try.func61 (by kernel_rfl) rfl args w) (fun a => match a with
  | .inl a => onlyIf (fun h => fn_gives (P := Try.prog) (env := [eInSq, eOutS]) ⟨eInSq_ok, eOutS_ok, trivial⟩ Try.func61 1 o0 (by kernel_rfl) trivial)
  | .inr a => onlyIf (fun h => fn_gives (P := Try.prog) (env := [eInSq, eOutS]) ⟨eInSq_ok, eOutS_ok, trivial⟩ Try.func61 1 o0 (by kernel_rfl) (And.intro h trivial)))
end Go.Proofs.Ytmbllhibdbeplaa
