/- Contracts of the reference of the field of order r: comparison, difference, sum, remainder, the sums of elements. -/
import Derived.Test.YtmbllhibdbeplaaElS
import Derived.Test.YtmbllhibdbeplaaNum
set_option linter.unusedSimpArgs false
set_option linter.unusedVariables false
namespace Go.Proofs.Ytmbllhibdbeplaa
open Go.Ev Go.RowKit

def zS (k : Nat) : List Ch := List.replicate k (.c (.int .u64 0))
def minusSI (a b i β o : Nat) : LState := { n := 45, sl := [(2, .p 0 0), (3, .p 1 0), (4, .p 2 0), (5, .p 4 0), (6, .u β), (7, .v (.int .i64 (i : Nat)))], hp := [(0, .own [.n 4 a] 32), (1, .own [.n 4 b] 32), (2, .own [.c (.int .u64 0), .c (.int .u64 0), .c (.int .u64 0), .c (.int .u64 0)] 32), (4, .own (.n i o :: zS (4 - i)) 32)] }
def minusSI0 (a b : Nat) : LState := { n := 45, sl := [(2, .p 0 0), (3, .p 1 0), (4, .p 2 0), (5, .p 4 0), (6, .v (.int .u64 0)), (7, .v (.int .i64 0))], hp := [(0, .own [.n 4 a] 32), (1, .own [.n 4 b] 32), (2, .own [.c (.int .u64 0), .c (.int .u64 0), .c (.int .u64 0), .c (.int .u64 0)] 32), (4, .own ([.c (.int .u64 0), .c (.int .u64 0), .c (.int .u64 0), .c (.int .u64 0)]) 32)] }
def minusSZ (a b o : Nat) : LState := { n := 45, sl := [(4, .p 2 0), (5, .p 4 0)], hp := [(0, .own [.n 4 a] 32), (1, .own [.n 4 b] 32), (2, .own [.c (.int .u64 0), .c (.int .u64 0), .c (.int .u64 0), .c (.int .u64 0)] 32), (4, .own ([.n 4 o]) 32)] }
def plusSI (a b i β o : Nat) : LState := { n := 45, sl := [(2, .p 0 0), (3, .p 1 0), (4, .p 2 0), (5, .p 4 0), (6, .u β), (7, .v (.int .i64 (i : Nat)))], hp := [(0, .own [.n 4 a] 32), (1, .own [.n 4 b] 32), (2, .own [.c (.int .u64 0), .c (.int .u64 0), .c (.int .u64 0), .c (.int .u64 0)] 32), (4, .own (.n i o :: zS (4 - i)) 32)] }
def plusSI0 (a b : Nat) : LState := { n := 45, sl := [(2, .p 0 0), (3, .p 1 0), (4, .p 2 0), (5, .p 4 0), (6, .v (.int .u64 0)), (7, .v (.int .i64 0))], hp := [(0, .own [.n 4 a] 32), (1, .own [.n 4 b] 32), (2, .own [.c (.int .u64 0), .c (.int .u64 0), .c (.int .u64 0), .c (.int .u64 0)] 32), (4, .own ([.c (.int .u64 0), .c (.int .u64 0), .c (.int .u64 0), .c (.int .u64 0)]) 32)] }
def plusSZ (a b o : Nat) : LState := { n := 45, sl := [(4, .p 2 0), (5, .p 4 0)], hp := [(0, .own [.n 4 a] 32), (1, .own [.n 4 b] 32), (2, .own [.c (.int .u64 0), .c (.int .u64 0), .c (.int .u64 0), .c (.int .u64 0)] 32), (4, .own ([.n 4 o]) 32)] }
end Go.Proofs.Ytmbllhibdbeplaa
