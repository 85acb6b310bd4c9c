/- Pruned: Gr. -/
import Derived.Test.YtfbkefgoblcmpaaGreatQHa
import Derived.Test.YtfbkefgoblcmpaaGreatQHd
import Derived.Test.YtfbkefgoblcmpaaGreatQHc
import Derived.Test.YtfbkefgoblcmpaaGreatQE2
import Derived.Test.YtfbkefgoblcmpaaGreatProg
import Derived.Test.YtfbkefgoblcmpaaGreatQHf
set_option linter.unusedSimpArgs false
set_option linter.unusedVariables false
namespace Go.Proofs.YtfbkefgoblcmpaaGreat
open Go.Ev Go.RowKit
open Tryz
end Go.Proofs.YtfbkefgoblcmpaaGreat
set_option linter.unusedSimpArgs false
set_option linter.unusedVariables false
namespace Go.Proofs.YtfbkefgoblcmpaaGreat
open Go.Ev Go.RowKit
open Tryz
theorem Cx : flat [.m (0 : Fin Pp)] = flat [.c (.int .u64 0), .c (.int .u64 0), .c (.int .u64 0), .c (.int .u64 0), .c (.int .u64 0), .c (.int .u64 0)] := by kernel_rfl
theorem N5 (a : Fin Pp) (h : a = 0) : Gives prog 74 [.t (.ag [.m a])] (.v (.bool true)) := qa (P := prog) (env := []) trivial func74 0 (oN [] [(4, 0)]) (by kernel_rfl) (And.intro (show flat [.m a] = flat [.c (.int .u64 0), .c (.int .u64 0), .c (.int .u64 0), .c (.int .u64 0), .c (.int .u64 0), .c (.int .u64 0)] from by rw [h]; exact Cx) tt0)
theorem NT (a : Fin Pp) (h : a ≠ 0) : Gives prog 74 [.t (.ag [.m a])] (.v (.bool false)) := qa (P := prog) (env := []) trivial func74 0 (oN [] [(4, 1)]) (by kernel_rfl) (And.intro (show ¬ flat [.m a] = flat [.c (.int .u64 0), .c (.int .u64 0), .c (.int .u64 0), .c (.int .u64 0), .c (.int .u64 0), .c (.int .u64 0)] from fun e => h (yS (e.trans Cx.symm))) tt0)
def Gm : Entry := qA 74 vw.x (fun a => [(some (a = 0), .v (.bool true)), (some (a ≠ 0), .v (.bool false))])
theorem Fw : Gm.OK prog := qj (fun args w => Go.Proofs.enters_of (P := prog) func74 (by kernel_rfl) rfl args w) (fun a c r hm hc => by
 simp only [List.mem_cons, pi0, List.not_mem_nil, or_false] at hm
 rcases hm with ⟨rfl, rfl⟩ | ⟨rfl, rfl⟩
 ·exact N5 a hc
 ·exact NT a hc)
end Go.Proofs.YtfbkefgoblcmpaaGreat
