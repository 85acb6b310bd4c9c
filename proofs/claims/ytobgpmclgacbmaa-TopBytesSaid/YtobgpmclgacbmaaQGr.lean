/- Pruned: Gr. -/
import Derived.Test.YtobgpmclgacbmaaQHa
import Derived.Test.YtobgpmclgacbmaaQHd
import Derived.Test.YtobgpmclgacbmaaQHc
import Derived.Test.YtobgpmclgacbmaaQE2
import Derived.Test.YtobgpmclgacbmaaQHe
import Derived.Test.YtobgpmclgacbmaaQHf
/- Contracts about high elements and roots: core, the layer fp, the reference. -/
set_option linter.unusedSimpArgs false
set_option linter.unusedVariables false
namespace Go.Proofs.Ytobgpmclgacbmaa
open Go.Ev Go.RowKit

theorem highP_2 (a : Fin Pp) (h : hiP a) : Gives Try.prog 42 [.t (.ag [.m a])] (.v (.bool true)) := fn_gives (P := Try.prog) (env := [eNegP, eOutP, eCmpP]) ⟨eNegP_ok, eOutP_ok, eCmpP_ok, trivial⟩ Try.func42 0 (oN [] [(13, 2)]) (by kernel_rfl) (And.intro (show a.val < 39402006196394479212279040100143613805079739270465446667948293404245721771497210611414266254884915640806627990306816 ∧ (-a).val < 39402006196394479212279040100143613805079739270465446667948293404245721771497210611414266254884915640806627990306816 ∧ (-a).val < a.val from ⟨(Nat.lt_trans a.isLt (by decide)), (Nat.lt_trans (-a).isLt (by decide)), h⟩) trivial)
theorem highP_1 (a : Fin Pp) (h : a.val = (-a).val) : Gives Try.prog 42 [.t (.ag [.m a])] (.v (.bool false)) := fn_gives (P := Try.prog) (env := [eNegP, eOutP, eCmpP]) ⟨eNegP_ok, eOutP_ok, eCmpP_ok, trivial⟩ Try.func42 0 (oN [] [(13, 1)]) (by kernel_rfl) (And.intro (show a.val < 39402006196394479212279040100143613805079739270465446667948293404245721771497210611414266254884915640806627990306816 ∧ (-a).val < 39402006196394479212279040100143613805079739270465446667948293404245721771497210611414266254884915640806627990306816 ∧ a.val = (-a).val from ⟨(Nat.lt_trans a.isLt (by decide)), (Nat.lt_trans (-a).isLt (by decide)), h⟩) trivial)
theorem highP_0 (a : Fin Pp) (h : a.val < (-a).val) : Gives Try.prog 42 [.t (.ag [.m a])] (.v (.bool false)) := fn_gives (P := Try.prog) (env := [eNegP, eOutP, eCmpP]) ⟨eNegP_ok, eOutP_ok, eCmpP_ok, trivial⟩ Try.func42 0 (oN [] [(13, 0)]) (by kernel_rfl) (And.intro (show a.val < 39402006196394479212279040100143613805079739270465446667948293404245721771497210611414266254884915640806627990306816 ∧ (-a).val < 39402006196394479212279040100143613805079739270465446667948293404245721771497210611414266254884915640806627990306816 ∧ a.val < (-a).val from ⟨(Nat.lt_trans a.isLt (by decide)), (Nat.lt_trans (-a).isLt (by decide)), h⟩) trivial)
theorem highP_no (a : Fin Pp) (h : ¬ hiP a) : Gives Try.prog 42 [.t (.ag [.m a])] (.v (.bool false)) := by
  rcases Nat.lt_or_eq_of_le (Nat.le_of_not_lt h) with h | h
  · exact highP_0 a h
  · exact highP_1 a h
def eHighP : Entry := entry1 42 parM.x (fun a => [(some (hiP a), .v (.bool true)), (some (¬ hiP a), .v (.bool false))])
theorem eHighP_ok : eHighP.OK Try.prog := entry1_ok (fun args w => Go.Proofs.enters_of (P := Try.prog) Try.func42 (by kernel_rfl) rfl args w) (fun a c r hm hc => by
  simp only [List.mem_cons, Prod.mk.injEq, List.not_mem_nil, or_false] at hm
  rcases hm with ⟨rfl, rfl⟩ | ⟨rfl, rfl⟩
  · exact highP_2 a hc
  · exact highP_no a hc)
theorem lowGives (a : Fin Pp) : Gives Try.prog 51 [.t (.ag [.m a])] (.ag [.m (lowP a)]) := by
  by_cases h : hiP a
  · rw [show lowP a = -a from if_pos h]; exact fn_gives (P := Try.prog) (env := [eHighP, eNegP]) ⟨eHighP_ok, eNegP_ok, trivial⟩ Try.func51 0 (oN [] [(3, 0)]) (by kernel_rfl) (And.intro (show hiP a from h) trivial)
  · rw [show lowP a = a from if_neg h]; exact fn_gives (P := Try.prog) (env := [eHighP, eNegP]) ⟨eHighP_ok, eNegP_ok, trivial⟩ Try.func51 0 (oN [] [(3, 1)]) (by kernel_rfl) (And.intro (show ¬ hiP a from h) trivial)
def eLowP : Entry := entry1 51 parM.x (fun a => [(none, .ag [.m (lowP a)])])
theorem eLowP_ok : eLowP.OK Try.prog := entry1_ok (fun args w => Go.Proofs.enters_of (P := Try.prog) Try.func51 (by kernel_rfl) rfl args w) (fun a => only (lowGives a))
theorem rootP_yes (a : Fin Pp) (h : sqP a) : Gives Try.prog 25 [.t (.ag [.m a])] (.tp [.ag [.m (lowP (rtP a))], .v (.bool true)]) := fn_gives (P := Try.prog) (env := [eSmP, ePowerP, eTimesP, eLowP]) ⟨eSmP_ok, ePowerP_ok, eTimesP_ok, eLowP_ok, trivial⟩ Try.func25 1 (oN [] [(165, 0)]) (by kernel_rfl) (And.intro (show flat [.m (rtP a * rtP a)] = flat [.m a] from by rw [show rtP a * rtP a = a from h]) (And.intro (show ofP (1 % 18446744073709551616) = 1 ∧ rootE < 18446744073709551616 ^ 6 from ⟨by decide, by decide⟩) trivial))
theorem rootP_no (a : Fin Pp) (h : ¬ sqP a) : Gives Try.prog 25 [.t (.ag [.m a])] (.tp [.ag [.c (.int .u64 0), .c (.int .u64 0), .c (.int .u64 0), .c (.int .u64 0), .c (.int .u64 0), .c (.int .u64 0)], .v (.bool false)]) := fn_gives (P := Try.prog) (env := [eSmP, ePowerP, eTimesP, eLowP]) ⟨eSmP_ok, ePowerP_ok, eTimesP_ok, eLowP_ok, trivial⟩ Try.func25 1 (oN [] [(165, 1)]) (by kernel_rfl) (And.intro (show ¬ flat [.m (rtP a * rtP a)] = flat [.m a] from fun e => h (flat_m_inj e)) (And.intro (show ofP (1 % 18446744073709551616) = 1 ∧ rootE < 18446744073709551616 ^ 6 from ⟨by decide, by decide⟩) trivial))
def eRootP : Entry := entry1 25 parM.x (fun a => [(some (sqP a), .tp [.ag [.m (lowP (rtP a))], .v (.bool true)]), (some (¬ sqP a), .tp [.ag [.c (.int .u64 0), .c (.int .u64 0), .c (.int .u64 0), .c (.int .u64 0), .c (.int .u64 0), .c (.int .u64 0)], .v (.bool false)])])
theorem eRootP_ok : eRootP.OK Try.prog := entry1_ok (fun args w => Go.Proofs.enters_of (P := Try.prog) Try.func25 (by kernel_rfl) rfl args w) (fun a c r hm hc => by
  simp only [List.mem_cons, Prod.mk.injEq, List.not_mem_nil, or_false] at hm
  rcases hm with ⟨rfl, rfl⟩ | ⟨rfl, rfl⟩
  · exact rootP_yes a hc
  · exact rootP_no a hc)
end Go.Proofs.Ytobgpmclgacbmaa

/- Contracts about high pairs and their roots: core, the layer duo, the reference. -/
set_option linter.unusedSimpArgs false
set_option linter.unusedVariables false
namespace Go.Proofs.Ytobgpmclgacbmaa
open Go.Ev Go.RowKit

theorem zero_m : flat [.m (0 : Fin Pp)] = flat [.c (.int .u64 0), .c (.int .u64 0), .c (.int .u64 0), .c (.int .u64 0), .c (.int .u64 0), .c (.int .u64 0)] := by kernel_rfl
theorem isZero_0 (a : Fin Pp) (h : a = 0) : Gives Try.prog 54 [.t (.ag [.m a])] (.v (.bool true)) := fn_gives (P := Try.prog) (env := []) trivial Try.func54 0 (oN [] [(4, 0)]) (by kernel_rfl) (And.intro (show flat [.m a] = flat [.c (.int .u64 0), .c (.int .u64 0), .c (.int .u64 0), .c (.int .u64 0), .c (.int .u64 0), .c (.int .u64 0)] from by rw [h]; exact zero_m) trivial)
theorem isZero_1 (a : Fin Pp) (h : a ≠ 0) : Gives Try.prog 54 [.t (.ag [.m a])] (.v (.bool false)) := fn_gives (P := Try.prog) (env := []) trivial Try.func54 0 (oN [] [(4, 1)]) (by kernel_rfl) (And.intro (show ¬ flat [.m a] = flat [.c (.int .u64 0), .c (.int .u64 0), .c (.int .u64 0), .c (.int .u64 0), .c (.int .u64 0), .c (.int .u64 0)] from fun e => h (flat_m_inj (e.trans zero_m.symm))) trivial)
def eIsZeroP : Entry := entry1 54 parM.x (fun a => [(some (a = 0), .v (.bool true)), (some (a ≠ 0), .v (.bool false))])
theorem eIsZeroP_ok : eIsZeroP.OK Try.prog := entry1_ok (fun args w => Go.Proofs.enters_of (P := Try.prog) Try.func54 (by kernel_rfl) rfl args w) (fun a c r hm hc => by
  simp only [List.mem_cons, Prod.mk.injEq, List.not_mem_nil, or_false] at hm
  rcases hm with ⟨rfl, rfl⟩ | ⟨rfl, rfl⟩
  · exact isZero_0 a hc
  · exact isZero_1 a hc)
end Go.Proofs.Ytobgpmclgacbmaa
