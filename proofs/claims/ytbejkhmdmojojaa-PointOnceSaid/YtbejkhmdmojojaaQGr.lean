/- Pruned: Gr. -/
import Derived.Test.YtbejkhmdmojojaaQRts
import Derived.Test.YtbejkhmdmojojaaQPwP
import Derived.Test.YtbejkhmdmojojaaQRmP
import Derived.Test.YtbejkhmdmojojaaQCmP
import Derived.Test.YtbejkhmdmojojaaQRts2
import Derived.Test.YtbejkhmdmojojaaQTo3
import Derived.Test.YtbejkhmdmojojaaQRt
/- Contracts about high elements and roots: core, the layer fp, the reference. -/
set_option linter.unusedSimpArgs false
set_option linter.unusedVariables false
namespace Go.Proofs.Ytbejkhmdmojojaa
open Go.Ev Go.RowKit

theorem highP_2 (a : Fin Pp) (h : hiP a) : Gives Try.prog 87 [.t (.ag [.m a])] (.v (.bool true)) := fn_gives (P := Try.prog) (env := [eNegP, eOutP, eCmpP]) ⟨eNegP_ok, eOutP_ok, eCmpP_ok, trivial⟩ Try.func87 0 (oN [] [(13, 2)]) (by kernel_rfl) (And.intro (show a.val < 39402006196394479212279040100143613805079739270465446667948293404245721771497210611414266254884915640806627990306816 ∧ (-a).val < 39402006196394479212279040100143613805079739270465446667948293404245721771497210611414266254884915640806627990306816 ∧ (-a).val < a.val from ⟨(Nat.lt_trans a.isLt (by decide)), (Nat.lt_trans (-a).isLt (by decide)), h⟩) trivial)
theorem highP_1 (a : Fin Pp) (h : a.val = (-a).val) : Gives Try.prog 87 [.t (.ag [.m a])] (.v (.bool false)) := fn_gives (P := Try.prog) (env := [eNegP, eOutP, eCmpP]) ⟨eNegP_ok, eOutP_ok, eCmpP_ok, trivial⟩ Try.func87 0 (oN [] [(13, 1)]) (by kernel_rfl) (And.intro (show a.val < 39402006196394479212279040100143613805079739270465446667948293404245721771497210611414266254884915640806627990306816 ∧ (-a).val < 39402006196394479212279040100143613805079739270465446667948293404245721771497210611414266254884915640806627990306816 ∧ a.val = (-a).val from ⟨(Nat.lt_trans a.isLt (by decide)), (Nat.lt_trans (-a).isLt (by decide)), h⟩) trivial)
theorem highP_0 (a : Fin Pp) (h : a.val < (-a).val) : Gives Try.prog 87 [.t (.ag [.m a])] (.v (.bool false)) := fn_gives (P := Try.prog) (env := [eNegP, eOutP, eCmpP]) ⟨eNegP_ok, eOutP_ok, eCmpP_ok, trivial⟩ Try.func87 0 (oN [] [(13, 0)]) (by kernel_rfl) (And.intro (show a.val < 39402006196394479212279040100143613805079739270465446667948293404245721771497210611414266254884915640806627990306816 ∧ (-a).val < 39402006196394479212279040100143613805079739270465446667948293404245721771497210611414266254884915640806627990306816 ∧ a.val < (-a).val from ⟨(Nat.lt_trans a.isLt (by decide)), (Nat.lt_trans (-a).isLt (by decide)), h⟩) trivial)
theorem highP_no (a : Fin Pp) (h : ¬ hiP a) : Gives Try.prog 87 [.t (.ag [.m a])] (.v (.bool false)) := by
  rcases Nat.lt_or_eq_of_le (Nat.le_of_not_lt h) with h | h
  · exact highP_0 a h
  · exact highP_1 a h
def eHighP : Entry := entry1 87 parM.x (fun a => [(some (hiP a), .v (.bool true)), (some (¬ hiP a), .v (.bool false))])
theorem eHighP_ok : eHighP.OK Try.prog := entry1_ok (fun args w => Go.Proofs.enters_of (P := Try.prog) Try.func87 (by kernel_rfl) rfl args w) (fun a c r hm hc => by
  simp only [List.mem_cons, Prod.mk.injEq, List.not_mem_nil, or_false] at hm
  rcases hm with ⟨rfl, rfl⟩ | ⟨rfl, rfl⟩
  · exact highP_2 a hc
  · exact highP_no a hc)
theorem lowGives (a : Fin Pp) : Gives Try.prog 107 [.t (.ag [.m a])] (.ag [.m (lowP a)]) := by
  by_cases h : hiP a
  · rw [show lowP a = -a from if_pos h]; exact fn_gives (P := Try.prog) (env := [eHighP, eNegP]) ⟨eHighP_ok, eNegP_ok, trivial⟩ Try.func107 0 (oN [] [(3, 0)]) (by kernel_rfl) (And.intro (show hiP a from h) trivial)
  · rw [show lowP a = a from if_neg h]; exact fn_gives (P := Try.prog) (env := [eHighP, eNegP]) ⟨eHighP_ok, eNegP_ok, trivial⟩ Try.func107 0 (oN [] [(3, 1)]) (by kernel_rfl) (And.intro (show ¬ hiP a from h) trivial)
def eLowP : Entry := entry1 107 parM.x (fun a => [(none, .ag [.m (lowP a)])])
theorem eLowP_ok : eLowP.OK Try.prog := entry1_ok (fun args w => Go.Proofs.enters_of (P := Try.prog) Try.func107 (by kernel_rfl) rfl args w) (fun a => only (lowGives a))
theorem rootP_yes (a : Fin Pp) (h : sqP a) : Gives Try.prog 63 [.t (.ag [.m a])] (.tp [.ag [.m (lowP (rtP a))], .v (.bool true)]) := fn_gives (P := Try.prog) (env := [eSmP, ePowerP, eTimesP, eLowP]) ⟨eSmP_ok, ePowerP_ok, eTimesP_ok, eLowP_ok, trivial⟩ Try.func63 1 (oN [] [(165, 0)]) (by kernel_rfl) (And.intro (show flat [.m (rtP a * rtP a)] = flat [.m a] from by rw [show rtP a * rtP a = a from h]) (And.intro (show ofP (1 % 18446744073709551616) = 1 ∧ rootE < 18446744073709551616 ^ 6 from ⟨by decide, by decide⟩) trivial))
theorem rootP_no (a : Fin Pp) (h : ¬ sqP a) : Gives Try.prog 63 [.t (.ag [.m a])] (.tp [.ag [.c (.int .u64 0), .c (.int .u64 0), .c (.int .u64 0), .c (.int .u64 0), .c (.int .u64 0), .c (.int .u64 0)], .v (.bool false)]) := fn_gives (P := Try.prog) (env := [eSmP, ePowerP, eTimesP, eLowP]) ⟨eSmP_ok, ePowerP_ok, eTimesP_ok, eLowP_ok, trivial⟩ Try.func63 1 (oN [] [(165, 1)]) (by kernel_rfl) (And.intro (show ¬ flat [.m (rtP a * rtP a)] = flat [.m a] from fun e => h (flat_m_inj e)) (And.intro (show ofP (1 % 18446744073709551616) = 1 ∧ rootE < 18446744073709551616 ^ 6 from ⟨by decide, by decide⟩) trivial))
def eRootP : Entry := entry1 63 parM.x (fun a => [(some (sqP a), .tp [.ag [.m (lowP (rtP a))], .v (.bool true)]), (some (¬ sqP a), .tp [.ag [.c (.int .u64 0), .c (.int .u64 0), .c (.int .u64 0), .c (.int .u64 0), .c (.int .u64 0), .c (.int .u64 0)], .v (.bool false)])])
theorem eRootP_ok : eRootP.OK Try.prog := entry1_ok (fun args w => Go.Proofs.enters_of (P := Try.prog) Try.func63 (by kernel_rfl) rfl args w) (fun a c r hm hc => by
  simp only [List.mem_cons, Prod.mk.injEq, List.not_mem_nil, or_false] at hm
  rcases hm with ⟨rfl, rfl⟩ | ⟨rfl, rfl⟩
  · exact rootP_yes a hc
  · exact rootP_no a hc)
end Go.Proofs.Ytbejkhmdmojojaa

/- Contracts about high pairs and their roots: core, the layer duo, the reference. -/
set_option linter.unusedSimpArgs false
set_option linter.unusedVariables false
namespace Go.Proofs.Ytbejkhmdmojojaa
open Go.Ev Go.RowKit

theorem zero_m : flat [.m (0 : Fin Pp)] = flat [.c (.int .u64 0), .c (.int .u64 0), .c (.int .u64 0), .c (.int .u64 0), .c (.int .u64 0), .c (.int .u64 0)] := by kernel_rfl
theorem isZero_0 (a : Fin Pp) (h : a = 0) : Gives Try.prog 43 [.t (.ag [.m a])] (.v (.bool true)) := fn_gives (P := Try.prog) (env := []) trivial Try.func43 0 (oN [] [(4, 0)]) (by kernel_rfl) (And.intro (show flat [.m a] = flat [.c (.int .u64 0), .c (.int .u64 0), .c (.int .u64 0), .c (.int .u64 0), .c (.int .u64 0), .c (.int .u64 0)] from by rw [h]; exact zero_m) trivial)
theorem isZero_1 (a : Fin Pp) (h : a ≠ 0) : Gives Try.prog 43 [.t (.ag [.m a])] (.v (.bool false)) := fn_gives (P := Try.prog) (env := []) trivial Try.func43 0 (oN [] [(4, 1)]) (by kernel_rfl) (And.intro (show ¬ flat [.m a] = flat [.c (.int .u64 0), .c (.int .u64 0), .c (.int .u64 0), .c (.int .u64 0), .c (.int .u64 0), .c (.int .u64 0)] from fun e => h (flat_m_inj (e.trans zero_m.symm))) trivial)
def eIsZeroP : Entry := entry1 43 parM.x (fun a => [(some (a = 0), .v (.bool true)), (some (a ≠ 0), .v (.bool false))])
theorem eIsZeroP_ok : eIsZeroP.OK Try.prog := entry1_ok (fun args w => Go.Proofs.enters_of (P := Try.prog) Try.func43 (by kernel_rfl) rfl args w) (fun a c r hm hc => by
  simp only [List.mem_cons, Prod.mk.injEq, List.not_mem_nil, or_false] at hm
  rcases hm with ⟨rfl, rfl⟩ | ⟨rfl, rfl⟩
  · exact isZero_0 a hc
  · exact isZero_1 a hc)
theorem high2_1 (a : F2) (h : hi2 a) : Gives Try.prog 89 [.t (.ag (m2 a))] (.v (.bool true)) := by
  by_cases h2 : a.2 = 0
  · exact fn_gives (P := Try.prog) (env := [eIsZeroP, eHighP]) ⟨eIsZeroP_ok, eHighP_ok, trivial⟩ Try.func89 0 (oN [] [(4, 0), (7, 0)]) (by kernel_rfl) (And.intro (show hiP a.1 from by unfold hi2 at h; rw [if_pos h2] at h; exact h) (And.intro (show a.2 = 0 from h2) trivial))
  · exact fn_gives (P := Try.prog) (env := [eIsZeroP, eHighP]) ⟨eIsZeroP_ok, eHighP_ok, trivial⟩ Try.func89 0 (oN [] [(4, 1), (7, 0)]) (by kernel_rfl) (And.intro (show hiP a.2 from by unfold hi2 at h; rw [if_neg h2] at h; exact h) (And.intro (show a.2 ≠ 0 from h2) trivial))
theorem high2_0 (a : F2) (h : ¬ hi2 a) : Gives Try.prog 89 [.t (.ag (m2 a))] (.v (.bool false)) := by
  by_cases h2 : a.2 = 0
  · exact fn_gives (P := Try.prog) (env := [eIsZeroP, eHighP]) ⟨eIsZeroP_ok, eHighP_ok, trivial⟩ Try.func89 0 (oN [] [(4, 0), (7, 1)]) (by kernel_rfl) (And.intro (show ¬ hiP a.1 from by unfold hi2 at h; rw [if_pos h2] at h; exact h) (And.intro (show a.2 = 0 from h2) trivial))
  · exact fn_gives (P := Try.prog) (env := [eIsZeroP, eHighP]) ⟨eIsZeroP_ok, eHighP_ok, trivial⟩ Try.func89 0 (oN [] [(4, 1), (7, 1)]) (by kernel_rfl) (And.intro (show ¬ hiP a.2 from by unfold hi2 at h; rw [if_neg h2] at h; exact h) (And.intro (show a.2 ≠ 0 from h2) trivial))
def eHigh2 : Entry := entry1 89 parM2.x (fun a => [(some (hi2 a), .v (.bool true)), (some (¬ hi2 a), .v (.bool false))])
theorem eHigh2_ok : eHigh2.OK Try.prog := entry1_ok (fun args w => Go.Proofs.enters_of (P := Try.prog) Try.func89 (by kernel_rfl) rfl args w) (fun a c r hm hc => by
  simp only [List.mem_cons, Prod.mk.injEq, List.not_mem_nil, or_false] at hm
  rcases hm with ⟨rfl, rfl⟩ | ⟨rfl, rfl⟩
  · exact high2_1 a hc
  · exact high2_0 a hc)
theorem tp_same {a b : AV} (v : AV) (h : a.val? = b.val?) : (AV.tp [a, v]).val? = (AV.tp [b, v]).val? := by simp only [AV.val?, AV.vals?, h]
theorem same_a {f : Nat} {l : List XV} (x : Fin Pp) (h : Gives Try.prog f l (.tp [.ag [.m x, .c (.int .u64 0), .c (.int .u64 0), .c (.int .u64 0), .c (.int .u64 0), .c (.int .u64 0), .c (.int .u64 0)], .v (.bool true)])) : Gives Try.prog f l (.tp [.ag (m2 (x, 0)), .v (.bool true)]) := h.same (tp_same _ (ag_same rfl rfl (show flat ([.m x] ++ [.m (0 : Fin Pp)]) = flat ([.m x] ++ [.c (.int .u64 0), .c (.int .u64 0), .c (.int .u64 0), .c (.int .u64 0), .c (.int .u64 0), .c (.int .u64 0)]) by rw [flat_append, flat_append, zero_m])))
theorem same_b {f : Nat} {l : List XV} (x : Fin Pp) (h : Gives Try.prog f l (.tp [.ag [.c (.int .u64 0), .c (.int .u64 0), .c (.int .u64 0), .c (.int .u64 0), .c (.int .u64 0), .c (.int .u64 0), .m x], .v (.bool true)])) : Gives Try.prog f l (.tp [.ag (m2 (0, x)), .v (.bool true)]) := h.same (tp_same _ (ag_same rfl rfl (show flat ([.m (0 : Fin Pp)] ++ [.m x]) = flat ([.c (.int .u64 0), .c (.int .u64 0), .c (.int .u64 0), .c (.int .u64 0), .c (.int .u64 0), .c (.int .u64 0)] ++ [.m x]) by rw [flat_append, flat_append, zero_m])))
def eInvE : Entry := entry1 125 parM.x (fun a => [(none, .ag [.m (invE a)])])
theorem eInvE_ok : eInvE.OK Try.prog := entry1_ok (fun args w => Go.Proofs.enters_of (P := Try.prog) Try.func125 (by kernel_rfl) rfl args w) (fun a => only (inverseP a))
theorem rootI_a (a : F2) (h2 : a.2 = 0) (hs : sqP a.1) : Gives Try.prog 109 [.t (.ag (m2 a))] (.tp [.ag [.m (lowP (rtP a.1)), .c (.int .u64 0), .c (.int .u64 0), .c (.int .u64 0), .c (.int .u64 0), .c (.int .u64 0), .c (.int .u64 0)], .v (.bool true)]) := fn_gives (P := Try.prog) (env := [eIsZeroP, eRootP, eNegP, eNorm2, eSmP, eInvE, ePlusP, eMinusP, eTimesP]) ⟨eIsZeroP_ok, eRootP_ok, eNegP_ok, eNorm2_ok, eSmP_ok, eInvE_ok, ePlusP_ok, eMinusP_ok, eTimesP_ok, trivial⟩ Try.func109 0 (oN [] [(5, 0), (8, 0)]) (by kernel_rfl) (And.intro (show sqP a.1 from hs) (And.intro (show a.2 = 0 from h2) trivial))
theorem rootI_b (a : F2) (h2 : a.2 = 0) (hs : ¬ sqP a.1) : Gives Try.prog 109 [.t (.ag (m2 a))] (.tp [.ag [.c (.int .u64 0), .c (.int .u64 0), .c (.int .u64 0), .c (.int .u64 0), .c (.int .u64 0), .c (.int .u64 0), .m (lowP (rtP (-a.1)))], .v (.bool true)]) := fn_gives (P := Try.prog) (env := [eIsZeroP, eRootP, eNegP, eNorm2, eSmP, eInvE, ePlusP, eMinusP, eTimesP]) ⟨eIsZeroP_ok, eRootP_ok, eNegP_ok, eNorm2_ok, eSmP_ok, eInvE_ok, ePlusP_ok, eMinusP_ok, eTimesP_ok, trivial⟩ Try.func109 0 (oN [] [(5, 0), (8, 1), (19, 0)]) (by kernel_rfl) (And.intro (show sqP (-a.1) from sq_neg_or hs) (And.intro (show ¬ sqP a.1 from hs) (And.intro (show a.2 = 0 from h2) trivial)))
theorem rootI_c (a : F2) (h2 : a.2 ≠ 0) (h : sq2 a) (hs : sqP (tOne a)) : Gives Try.prog 109 [.t (.ag (m2 a))] (.tp [.ag (m2 (part2 a (tOne a))), .v (.bool true)]) := fn_gives (P := Try.prog) (env := [eIsZeroP, eRootP, eNegP, eNorm2, eSmP, eInvE, ePlusP, eMinusP, eTimesP]) ⟨eIsZeroP_ok, eRootP_ok, eNegP_ok, eNorm2_ok, eSmP_ok, eInvE_ok, ePlusP_ok, eMinusP_ok, eTimesP_ok, trivial⟩ Try.func109 0 (oN [] [(5, 1), (8, 0), (27, 0)]) (by kernel_rfl) (And.intro (show sqP (tOne a) from hs) (And.intro (show sqP (norm2 a) from h) (And.intro (show a.2 ≠ 0 from h2) trivial)))
theorem rootI_d (a : F2) (h2 : a.2 ≠ 0) (h : sq2 a) (hs : ¬ sqP (tOne a)) : Gives Try.prog 109 [.t (.ag (m2 a))] (.tp [.ag (m2 (part2 a (tTwo a))), .v (.bool true)]) := fn_gives (P := Try.prog) (env := [eIsZeroP, eRootP, eNegP, eNorm2, eSmP, eInvE, ePlusP, eMinusP, eTimesP]) ⟨eIsZeroP_ok, eRootP_ok, eNegP_ok, eNorm2_ok, eSmP_ok, eInvE_ok, ePlusP_ok, eMinusP_ok, eTimesP_ok, trivial⟩ Try.func109 0 (oN [] [(5, 1), (8, 0), (27, 1), (42, 0)]) (by kernel_rfl) (And.intro (show sqP (tTwo a) from t_two_sq h h2 hs) (And.intro (show ¬ sqP (tOne a) from hs) (And.intro (show sqP (norm2 a) from h) (And.intro (show a.2 ≠ 0 from h2) trivial))))
theorem rootI_yes (a : F2) (h : sq2 a) : Gives Try.prog 109 [.t (.ag (m2 a))] (.tp [.ag (m2 (root2 a)), .v (.bool true)]) := by
  by_cases h2 : a.2 = 0
  · by_cases hs : sqP a.1
    · rw [show root2 a = (lowP (rtP a.1), 0) by unfold root2; rw [if_pos h2, if_pos hs]]
      exact same_a _ (rootI_a a h2 hs)
    · rw [show root2 a = (0, lowP (rtP (-a.1))) by unfold root2; rw [if_pos h2, if_neg hs]]
      exact same_b _ (rootI_b a h2 hs)
  · by_cases hs : sqP (tOne a)
    · rw [show root2 a = part2 a (tOne a) by unfold root2; rw [if_neg h2, if_pos hs]]
      exact rootI_c a h2 h hs
    · rw [show root2 a = part2 a (tTwo a) by unfold root2; rw [if_neg h2, if_neg hs]]
      exact rootI_d a h2 h hs
theorem rootI_no (a : F2) (h : ¬ sq2 a) : Gives Try.prog 109 [.t (.ag (m2 a))] (.tp [.ag (List.replicate 12 (.c (.int .u64 0))), .v (.bool false)]) := by
  have h2 : a.2 ≠ 0 := fun e => h (sq2_of_zero e)
  exact fn_gives (P := Try.prog) (env := [eIsZeroP, eRootP, eNegP, eNorm2, eSmP, eInvE, ePlusP, eMinusP, eTimesP]) ⟨eIsZeroP_ok, eRootP_ok, eNegP_ok, eNorm2_ok, eSmP_ok, eInvE_ok, ePlusP_ok, eMinusP_ok, eTimesP_ok, trivial⟩ Try.func109 0 (oN [] [(5, 1), (8, 1)]) (by kernel_rfl) (And.intro (show ¬ sqP (norm2 a) from h) (And.intro (show a.2 ≠ 0 from h2) trivial))
def eRootI : Entry := entry1 109 parM2.x (fun a => [(some (sq2 a), .tp [.ag (m2 (root2 a)), .v (.bool true)]), (some (¬ sq2 a), .tp [.ag (List.replicate 12 (.c (.int .u64 0))), .v (.bool false)])])
theorem eRootI_ok : eRootI.OK Try.prog := entry1_ok (fun args w => Go.Proofs.enters_of (P := Try.prog) Try.func109 (by kernel_rfl) rfl args w) (fun a c r hm hc => by
  simp only [List.mem_cons, Prod.mk.injEq, List.not_mem_nil, or_false] at hm
  rcases hm with ⟨rfl, rfl⟩ | ⟨rfl, rfl⟩
  · exact rootI_yes a hc
  · exact rootI_no a hc)
theorem rootII_yes (a : F2) (h : sq2 a) : Gives Try.prog 76 [.t (.ag (m2 a))] (.tp [.ag (m2 (rt2 a)), .v (.bool true)]) := by
  by_cases hh : hi2 (root2 a)
  · rw [show rt2 a = neg2 (root2 a) from if_pos hh]; exact fn_gives (P := Try.prog) (env := [eRootI, eHigh2, eNeg2]) ⟨eRootI_ok, eHigh2_ok, eNeg2_ok, trivial⟩ Try.func76 0 (oN [] [(4, 0), (14, 0)]) (by kernel_rfl) (And.intro (show hi2 (root2 a) from hh) (And.intro (show sq2 a from h) trivial))
  · rw [show rt2 a = root2 a from if_neg hh]; exact fn_gives (P := Try.prog) (env := [eRootI, eHigh2, eNeg2]) ⟨eRootI_ok, eHigh2_ok, eNeg2_ok, trivial⟩ Try.func76 0 (oN [] [(4, 0), (14, 1)]) (by kernel_rfl) (And.intro (show ¬ hi2 (root2 a) from hh) (And.intro (show sq2 a from h) trivial))
theorem rootII_no (a : F2) (h : ¬ sq2 a) : Gives Try.prog 76 [.t (.ag (m2 a))] (.tp [.ag (List.replicate 12 (.c (.int .u64 0))), .v (.bool false)]) := fn_gives (P := Try.prog) (env := [eRootI, eHigh2, eNeg2]) ⟨eRootI_ok, eHigh2_ok, eNeg2_ok, trivial⟩ Try.func76 0 (oN [] [(4, 1)]) (by kernel_rfl) (And.intro (show ¬ sq2 a from h) trivial)
def eRoot2 : Entry := entry1 76 parM2.x (fun a => [(some (sq2 a), .tp [.ag (m2 (rt2 a)), .v (.bool true)]), (some (¬ sq2 a), .tp [.ag (List.replicate 12 (.c (.int .u64 0))), .v (.bool false)])])
theorem eRoot2_ok : eRoot2.OK Try.prog := entry1_ok (fun args w => Go.Proofs.enters_of (P := Try.prog) Try.func76 (by kernel_rfl) rfl args w) (fun a c r hm hc => by
  simp only [List.mem_cons, Prod.mk.injEq, List.not_mem_nil, or_false] at hm
  rcases hm with ⟨rfl, rfl⟩ | ⟨rfl, rfl⟩
  · exact rootII_yes a hc
  · exact rootII_no a hc)
end Go.Proofs.Ytbejkhmdmojojaa
