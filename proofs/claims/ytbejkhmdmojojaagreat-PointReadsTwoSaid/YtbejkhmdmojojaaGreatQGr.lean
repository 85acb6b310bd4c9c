/- Pruned: Gr. -/
import Derived.Test.YtbejkhmdmojojaaGreatQRts
import Derived.Test.YtbejkhmdmojojaaGreatQPwP
import Derived.Test.YtbejkhmdmojojaaGreatQRmP
import Derived.Test.YtbejkhmdmojojaaGreatQCmP
import Derived.Test.YtbejkhmdmojojaaGreatQRts2
import Derived.Test.YtbejkhmdmojojaaGreatQTo3
import Derived.Test.YtbejkhmdmojojaaGreatQRt
/- Contracts about high elements and roots: core, the layer fp, the reference. -/
set_option linter.unusedSimpArgs false
set_option linter.unusedVariables false
namespace Go.Proofs.YtbejkhmdmojojaaGreat
open Go.Ev Go.RowKit

theorem highP_2 (a : Fin Pp) (h : hiP a) : Gives Tryz.prog 82 [.t (.ag [.m a])] (.v (.bool true)) := fn_gives (P := Tryz.prog) (env := [eNegP, eOutP, eCmpP]) ⟨eNegP_ok, eOutP_ok, eCmpP_ok, trivial⟩ Tryz.func82 0 (oN [] [(13, 2)]) (by kernel_rfl) (And.intro (show a.val < 39402006196394479212279040100143613805079739270465446667948293404245721771497210611414266254884915640806627990306816 ∧ (-a).val < 39402006196394479212279040100143613805079739270465446667948293404245721771497210611414266254884915640806627990306816 ∧ (-a).val < a.val from ⟨(Nat.lt_trans a.isLt (by decide)), (Nat.lt_trans (-a).isLt (by decide)), h⟩) trivial)
theorem highP_1 (a : Fin Pp) (h : a.val = (-a).val) : Gives Tryz.prog 82 [.t (.ag [.m a])] (.v (.bool false)) := fn_gives (P := Tryz.prog) (env := [eNegP, eOutP, eCmpP]) ⟨eNegP_ok, eOutP_ok, eCmpP_ok, trivial⟩ Tryz.func82 0 (oN [] [(13, 1)]) (by kernel_rfl) (And.intro (show a.val < 39402006196394479212279040100143613805079739270465446667948293404245721771497210611414266254884915640806627990306816 ∧ (-a).val < 39402006196394479212279040100143613805079739270465446667948293404245721771497210611414266254884915640806627990306816 ∧ a.val = (-a).val from ⟨(Nat.lt_trans a.isLt (by decide)), (Nat.lt_trans (-a).isLt (by decide)), h⟩) trivial)
theorem highP_0 (a : Fin Pp) (h : a.val < (-a).val) : Gives Tryz.prog 82 [.t (.ag [.m a])] (.v (.bool false)) := fn_gives (P := Tryz.prog) (env := [eNegP, eOutP, eCmpP]) ⟨eNegP_ok, eOutP_ok, eCmpP_ok, trivial⟩ Tryz.func82 0 (oN [] [(13, 0)]) (by kernel_rfl) (And.intro (show a.val < 39402006196394479212279040100143613805079739270465446667948293404245721771497210611414266254884915640806627990306816 ∧ (-a).val < 39402006196394479212279040100143613805079739270465446667948293404245721771497210611414266254884915640806627990306816 ∧ a.val < (-a).val from ⟨(Nat.lt_trans a.isLt (by decide)), (Nat.lt_trans (-a).isLt (by decide)), h⟩) trivial)
theorem highP_no (a : Fin Pp) (h : ¬ hiP a) : Gives Tryz.prog 82 [.t (.ag [.m a])] (.v (.bool false)) := by
  rcases Nat.lt_or_eq_of_le (Nat.le_of_not_lt h) with h | h
  · exact highP_0 a h
  · exact highP_1 a h
def eHighP : Entry := entry1 82 parM.x (fun a => [(some (hiP a), .v (.bool true)), (some (¬ hiP a), .v (.bool false))])
theorem eHighP_ok : eHighP.OK Tryz.prog := entry1_ok (fun args w => Go.Proofs.enters_of (P := Tryz.prog) Tryz.func82 (by kernel_rfl) rfl args w) (fun a c r hm hc => by
  simp only [List.mem_cons, Prod.mk.injEq, List.not_mem_nil, or_false] at hm
  rcases hm with ⟨rfl, rfl⟩ | ⟨rfl, rfl⟩
  · exact highP_2 a hc
  · exact highP_no a hc)
theorem lowGives (a : Fin Pp) : Gives Tryz.prog 92 [.t (.ag [.m a])] (.ag [.m (lowP a)]) := by
  by_cases h : hiP a
  · rw [show lowP a = -a from if_pos h]; exact fn_gives (P := Tryz.prog) (env := [eHighP, eNegP]) ⟨eHighP_ok, eNegP_ok, trivial⟩ Tryz.func92 0 (oN [] [(3, 0)]) (by kernel_rfl) (And.intro (show hiP a from h) trivial)
  · rw [show lowP a = a from if_neg h]; exact fn_gives (P := Tryz.prog) (env := [eHighP, eNegP]) ⟨eHighP_ok, eNegP_ok, trivial⟩ Tryz.func92 0 (oN [] [(3, 1)]) (by kernel_rfl) (And.intro (show ¬ hiP a from h) trivial)
def eLowP : Entry := entry1 92 parM.x (fun a => [(none, .ag [.m (lowP a)])])
theorem eLowP_ok : eLowP.OK Tryz.prog := entry1_ok (fun args w => Go.Proofs.enters_of (P := Tryz.prog) Tryz.func92 (by kernel_rfl) rfl args w) (fun a => only (lowGives a))
theorem zgr_0 : ofP (1 % 18446744073709551616) = 1 ∧ rootE < 18446744073709551616 ^ 6 := ⟨by decide, by decide⟩
theorem rootP_yes (a : Fin Pp) (h : sqP a) : Gives Tryz.prog 79 [.t (.ag [.m a])] (.tp [.ag [.m (lowP (rtP a))], .v (.bool true)]) := fn_gives (P := Tryz.prog) (env := [eSmP, ePowerP, eTimesP, eLowP]) ⟨eSmP_ok, ePowerP_ok, eTimesP_ok, eLowP_ok, trivial⟩ Tryz.func79 1 (oN [] [(165, 0)]) (by kernel_rfl) (And.intro (show flat [.m (rtP a * rtP a)] = flat [.m a] from by rw [show rtP a * rtP a = a from h]) (And.intro zgr_0 trivial))
theorem rootP_no (a : Fin Pp) (h : ¬ sqP a) : Gives Tryz.prog 79 [.t (.ag [.m a])] (.tp [.ag [.c (.int .u64 0), .c (.int .u64 0), .c (.int .u64 0), .c (.int .u64 0), .c (.int .u64 0), .c (.int .u64 0)], .v (.bool false)]) := fn_gives (P := Tryz.prog) (env := [eSmP, ePowerP, eTimesP, eLowP]) ⟨eSmP_ok, ePowerP_ok, eTimesP_ok, eLowP_ok, trivial⟩ Tryz.func79 1 (oN [] [(165, 1)]) (by kernel_rfl) (And.intro (show ¬ flat [.m (rtP a * rtP a)] = flat [.m a] from fun e => h (flat_m_inj e)) (And.intro zgr_0 trivial))
def eRootP : Entry := entry1 79 parM.x (fun a => [(some (sqP a), .tp [.ag [.m (lowP (rtP a))], .v (.bool true)]), (some (¬ sqP a), .tp [.ag [.c (.int .u64 0), .c (.int .u64 0), .c (.int .u64 0), .c (.int .u64 0), .c (.int .u64 0), .c (.int .u64 0)], .v (.bool false)])])
theorem eRootP_ok : eRootP.OK Tryz.prog := entry1_ok (fun args w => Go.Proofs.enters_of (P := Tryz.prog) Tryz.func79 (by kernel_rfl) rfl args w) (fun a c r hm hc => by
  simp only [List.mem_cons, Prod.mk.injEq, List.not_mem_nil, or_false] at hm
  rcases hm with ⟨rfl, rfl⟩ | ⟨rfl, rfl⟩
  · exact rootP_yes a hc
  · exact rootP_no a hc)
theorem highPr_0 (a : Fin Pp) (h : hiP a) : Gives Tryz.prog 36 [.t (.ag [.q a])] (.v (.bool true)) := fn_gives (P := Tryz.prog) (env := [eNegPr, eLessP]) ⟨eNegPr_ok, eLessP_ok, trivial⟩ Tryz.func36 0 (oN [] [(5, 0)]) (by kernel_rfl) (And.intro (show (-a).val < 39402006196394479212279040100143613805079739270465446667948293404245721771497210611414266254884915640806627990306816 ∧ a.val < 39402006196394479212279040100143613805079739270465446667948293404245721771497210611414266254884915640806627990306816 ∧ (-a).val < a.val from ⟨(Nat.lt_trans (-a).isLt (by decide)), (Nat.lt_trans a.isLt (by decide)), h⟩) trivial)
theorem highPr_1 (a : Fin Pp) (h : ¬ hiP a) : Gives Tryz.prog 36 [.t (.ag [.q a])] (.v (.bool false)) := fn_gives (P := Tryz.prog) (env := [eNegPr, eLessP]) ⟨eNegPr_ok, eLessP_ok, trivial⟩ Tryz.func36 0 (oN [] [(5, 1)]) (by kernel_rfl) (And.intro (show (-a).val < 39402006196394479212279040100143613805079739270465446667948293404245721771497210611414266254884915640806627990306816 ∧ a.val < 39402006196394479212279040100143613805079739270465446667948293404245721771497210611414266254884915640806627990306816 ∧ a.val ≤ (-a).val from ⟨(Nat.lt_trans (-a).isLt (by decide)), (Nat.lt_trans a.isLt (by decide)), Nat.le_of_not_lt h⟩) trivial)
def eHighPr : Entry := entry1 36 parQ.x (fun a => [(some (hiP a), .v (.bool true)), (some (¬ hiP a), .v (.bool false))])
theorem eHighPr_ok : eHighPr.OK Tryz.prog := entry1_ok (fun args w => Go.Proofs.enters_of (P := Tryz.prog) Tryz.func36 (by kernel_rfl) rfl args w) (fun a c r hm hc => by
  simp only [List.mem_cons, Prod.mk.injEq, List.not_mem_nil, or_false] at hm
  rcases hm with ⟨rfl, rfl⟩ | ⟨rfl, rfl⟩
  · exact highPr_0 a hc
  · exact highPr_1 a hc)
def eHalfP : Entry := entry1 66 parN6.x (fun a => [(some (a = 4002409555221667393417789825735904156556882819939007885332058136124031650490837864442687629129015664037894272559787), .ag [.n 6 halfP])])
theorem halfGives : Gives Tryz.prog 66 [.t (.ag [.n 6 4002409555221667393417789825735904156556882819939007885332058136124031650490837864442687629129015664037894272559787])] (.ag [.n 6 halfP]) := (fn_gives (P := Tryz.prog) (env := []) trivial Tryz.func66 0 o0 (r := .ag [.n 1 15924587544893707605, .n 1 1105070755758604287, .n 1 12941209323636816658, .n 1 12843041017062132063, .n 1 2706051889235351147, .n 1 936899308823769933]) (by kernel_rfl) trivial).same (by kernel_rfl)
theorem eHalfP_ok : eHalfP.OK Tryz.prog := entry1_ok (fun args w => Go.Proofs.enters_of (P := Tryz.prog) Tryz.func66 (by kernel_rfl) rfl args w) (fun a => onlyIf (fun h => by subst h; exact halfGives))
theorem squareP_0 (a : Fin Pp) (h : sqP a) : Gives Tryz.prog 35 [.t (.ag [.q a])] (.v (.bool true)) := by
  by_cases h0 : a = 0
  · exact fn_gives (P := Tryz.prog) (env := [eRRP, eHalfP, ePowPr]) ⟨eRRP_ok, eHalfP_ok, ePowPr_ok, trivial⟩ Tryz.func35 0 (oN [] [(4, 0)]) (by kernel_rfl) (And.intro (show flat [.q a] = flat [.c (.int .u64 0), .c (.int .u64 0), .c (.int .u64 0), .c (.int .u64 0), .c (.int .u64 0), .c (.int .u64 0)] from by rw [h0]; kernel_rfl) trivial)
  · exact fn_gives (P := Tryz.prog) (env := [eRRP, eHalfP, ePowPr]) ⟨eRRP_ok, eHalfP_ok, ePowPr_ok, trivial⟩ Tryz.func35 0 (oN [] [(4, 1), (11, 0)]) (by kernel_rfl) (And.intro (show flat [.q (pwP a halfP)] = flat [.c (.int .u64 1), .c (.int .u64 0), .c (.int .u64 0), .c (.int .u64 0), .c (.int .u64 0), .c (.int .u64 0)] from by rw [(sq_iff' h0).1 h]; kernel_rfl) (And.intro (show halfP < 18446744073709551616 ^ 6 from by decide) (And.intro (show 4002409555221667393417789825735904156556882819939007885332058136124031650490837864442687629129015664037894272559787 = 4002409555221667393417789825735904156556882819939007885332058136124031650490837864442687629129015664037894272559787 from rfl) (And.intro (show ¬ flat [.q a] = flat [.c (.int .u64 0), .c (.int .u64 0), .c (.int .u64 0), .c (.int .u64 0), .c (.int .u64 0), .c (.int .u64 0)] from ne_zerosP h0) trivial))))
theorem squareP_1 (a : Fin Pp) (h : ¬ sqP a) : Gives Tryz.prog 35 [.t (.ag [.q a])] (.v (.bool false)) := by
  have h0 : a ≠ 0 := fun e => h (by rw [e]; exact sq_zero)
  exact fn_gives (P := Tryz.prog) (env := [eRRP, eHalfP, ePowPr]) ⟨eRRP_ok, eHalfP_ok, ePowPr_ok, trivial⟩ Tryz.func35 0 (oN [] [(4, 1), (11, 1)]) (by kernel_rfl) (And.intro (show ¬ flat [.q (pwP a halfP)] = flat [.c (.int .u64 1), .c (.int .u64 0), .c (.int .u64 0), .c (.int .u64 0), .c (.int .u64 0), .c (.int .u64 0)] from fun e => h ((sq_iff' h0).2 (flat_q_inj (e.trans (show _ = flat [.q (1 : Fin Pp)] by kernel_rfl))))) (And.intro (show halfP < 18446744073709551616 ^ 6 from by decide) (And.intro (show 4002409555221667393417789825735904156556882819939007885332058136124031650490837864442687629129015664037894272559787 = 4002409555221667393417789825735904156556882819939007885332058136124031650490837864442687629129015664037894272559787 from rfl) (And.intro (show ¬ flat [.q a] = flat [.c (.int .u64 0), .c (.int .u64 0), .c (.int .u64 0), .c (.int .u64 0), .c (.int .u64 0), .c (.int .u64 0)] from ne_zerosP h0) trivial))))
def eSquareP : Entry := entry1 35 parQ.x (fun a => [(some (sqP a), .v (.bool true)), (some (¬ sqP a), .v (.bool false))])
theorem eSquareP_ok : eSquareP.OK Tryz.prog := entry1_ok (fun args w => Go.Proofs.enters_of (P := Tryz.prog) Tryz.func35 (by kernel_rfl) rfl args w) (fun a c r hm hc => by
  simp only [List.mem_cons, Prod.mk.injEq, List.not_mem_nil, or_false] at hm
  rcases hm with ⟨rfl, rfl⟩ | ⟨rfl, rfl⟩
  · exact squareP_0 a hc
  · exact squareP_1 a hc)
end Go.Proofs.YtbejkhmdmojojaaGreat

/- Contracts about high pairs and their roots: core, the layer duo, the reference. -/
set_option linter.unusedSimpArgs false
set_option linter.unusedVariables false
namespace Go.Proofs.YtbejkhmdmojojaaGreat
open Go.Ev Go.RowKit

theorem zero_m : flat [.m (0 : Fin Pp)] = flat [.c (.int .u64 0), .c (.int .u64 0), .c (.int .u64 0), .c (.int .u64 0), .c (.int .u64 0), .c (.int .u64 0)] := by kernel_rfl
theorem isZero_0 (a : Fin Pp) (h : a = 0) : Gives Tryz.prog 60 [.t (.ag [.m a])] (.v (.bool true)) := fn_gives (P := Tryz.prog) (env := []) trivial Tryz.func60 0 (oN [] [(4, 0)]) (by kernel_rfl) (And.intro (show flat [.m a] = flat [.c (.int .u64 0), .c (.int .u64 0), .c (.int .u64 0), .c (.int .u64 0), .c (.int .u64 0), .c (.int .u64 0)] from by rw [h]; exact zero_m) trivial)
theorem isZero_1 (a : Fin Pp) (h : a ≠ 0) : Gives Tryz.prog 60 [.t (.ag [.m a])] (.v (.bool false)) := fn_gives (P := Tryz.prog) (env := []) trivial Tryz.func60 0 (oN [] [(4, 1)]) (by kernel_rfl) (And.intro (show ¬ flat [.m a] = flat [.c (.int .u64 0), .c (.int .u64 0), .c (.int .u64 0), .c (.int .u64 0), .c (.int .u64 0), .c (.int .u64 0)] from fun e => h (flat_m_inj (e.trans zero_m.symm))) trivial)
def eIsZeroP : Entry := entry1 60 parM.x (fun a => [(some (a = 0), .v (.bool true)), (some (a ≠ 0), .v (.bool false))])
theorem eIsZeroP_ok : eIsZeroP.OK Tryz.prog := entry1_ok (fun args w => Go.Proofs.enters_of (P := Tryz.prog) Tryz.func60 (by kernel_rfl) rfl args w) (fun a c r hm hc => by
  simp only [List.mem_cons, Prod.mk.injEq, List.not_mem_nil, or_false] at hm
  rcases hm with ⟨rfl, rfl⟩ | ⟨rfl, rfl⟩
  · exact isZero_0 a hc
  · exact isZero_1 a hc)
theorem high2_1 (a : F2) (h : hi2 a) : Gives Tryz.prog 50 [.t (.ag (m2 a))] (.v (.bool true)) := by
  by_cases h2 : a.2 = 0
  · exact fn_gives (P := Tryz.prog) (env := [eIsZeroP, eHighP]) ⟨eIsZeroP_ok, eHighP_ok, trivial⟩ Tryz.func50 0 (oN [] [(4, 0), (7, 0)]) (by kernel_rfl) (And.intro (show hiP a.1 from by unfold hi2 at h; rw [if_pos h2] at h; exact h) (And.intro (show a.2 = 0 from h2) trivial))
  · exact fn_gives (P := Tryz.prog) (env := [eIsZeroP, eHighP]) ⟨eIsZeroP_ok, eHighP_ok, trivial⟩ Tryz.func50 0 (oN [] [(4, 1), (7, 0)]) (by kernel_rfl) (And.intro (show hiP a.2 from by unfold hi2 at h; rw [if_neg h2] at h; exact h) (And.intro (show a.2 ≠ 0 from h2) trivial))
theorem high2_0 (a : F2) (h : ¬ hi2 a) : Gives Tryz.prog 50 [.t (.ag (m2 a))] (.v (.bool false)) := by
  by_cases h2 : a.2 = 0
  · exact fn_gives (P := Tryz.prog) (env := [eIsZeroP, eHighP]) ⟨eIsZeroP_ok, eHighP_ok, trivial⟩ Tryz.func50 0 (oN [] [(4, 0), (7, 1)]) (by kernel_rfl) (And.intro (show ¬ hiP a.1 from by unfold hi2 at h; rw [if_pos h2] at h; exact h) (And.intro (show a.2 = 0 from h2) trivial))
  · exact fn_gives (P := Tryz.prog) (env := [eIsZeroP, eHighP]) ⟨eIsZeroP_ok, eHighP_ok, trivial⟩ Tryz.func50 0 (oN [] [(4, 1), (7, 1)]) (by kernel_rfl) (And.intro (show ¬ hiP a.2 from by unfold hi2 at h; rw [if_neg h2] at h; exact h) (And.intro (show a.2 ≠ 0 from h2) trivial))
def eHigh2 : Entry := entry1 50 parM2.x (fun a => [(some (hi2 a), .v (.bool true)), (some (¬ hi2 a), .v (.bool false))])
theorem eHigh2_ok : eHigh2.OK Tryz.prog := entry1_ok (fun args w => Go.Proofs.enters_of (P := Tryz.prog) Tryz.func50 (by kernel_rfl) rfl args w) (fun a c r hm hc => by
  simp only [List.mem_cons, Prod.mk.injEq, List.not_mem_nil, or_false] at hm
  rcases hm with ⟨rfl, rfl⟩ | ⟨rfl, rfl⟩
  · exact high2_1 a hc
  · exact high2_0 a hc)
theorem high2r_1 (a : F2) (h : hi2 a) : Gives Tryz.prog 10 [.t (.ag (q2 a))] (.v (.bool true)) := by
  by_cases h2 : a.2 = 0
  · exact fn_gives (P := Tryz.prog) (env := [eHighPr]) ⟨eHighPr_ok, trivial⟩ Tryz.func10 0 (oN [] [(5, 0), (8, 0)]) (by kernel_rfl) (And.intro (show hiP a.1 from by unfold hi2 at h; rw [if_pos h2] at h; exact h) (And.intro (show flat [.q a.2] = flat [.c (.int .u64 0), .c (.int .u64 0), .c (.int .u64 0), .c (.int .u64 0), .c (.int .u64 0), .c (.int .u64 0)] from by rw [h2]; kernel_rfl) trivial))
  · exact fn_gives (P := Tryz.prog) (env := [eHighPr]) ⟨eHighPr_ok, trivial⟩ Tryz.func10 0 (oN [] [(5, 1), (8, 0)]) (by kernel_rfl) (And.intro (show hiP a.2 from by unfold hi2 at h; rw [if_neg h2] at h; exact h) (And.intro (show ¬ flat [.q a.2] = flat [.c (.int .u64 0), .c (.int .u64 0), .c (.int .u64 0), .c (.int .u64 0), .c (.int .u64 0), .c (.int .u64 0)] from ne_zerosP h2) trivial))
theorem high2r_0 (a : F2) (h : ¬ hi2 a) : Gives Tryz.prog 10 [.t (.ag (q2 a))] (.v (.bool false)) := by
  by_cases h2 : a.2 = 0
  · exact fn_gives (P := Tryz.prog) (env := [eHighPr]) ⟨eHighPr_ok, trivial⟩ Tryz.func10 0 (oN [] [(5, 0), (8, 1)]) (by kernel_rfl) (And.intro (show ¬ hiP a.1 from by unfold hi2 at h; rw [if_pos h2] at h; exact h) (And.intro (show flat [.q a.2] = flat [.c (.int .u64 0), .c (.int .u64 0), .c (.int .u64 0), .c (.int .u64 0), .c (.int .u64 0), .c (.int .u64 0)] from by rw [h2]; kernel_rfl) trivial))
  · exact fn_gives (P := Tryz.prog) (env := [eHighPr]) ⟨eHighPr_ok, trivial⟩ Tryz.func10 0 (oN [] [(5, 1), (8, 1)]) (by kernel_rfl) (And.intro (show ¬ hiP a.2 from by unfold hi2 at h; rw [if_neg h2] at h; exact h) (And.intro (show ¬ flat [.q a.2] = flat [.c (.int .u64 0), .c (.int .u64 0), .c (.int .u64 0), .c (.int .u64 0), .c (.int .u64 0), .c (.int .u64 0)] from ne_zerosP h2) trivial))
def eHigh2r : Entry := entry1 10 parL2.x (fun a => [(some (hi2 a), .v (.bool true)), (some (¬ hi2 a), .v (.bool false))])
theorem eHigh2r_ok : eHigh2r.OK Tryz.prog := entry1_ok (fun args w => Go.Proofs.enters_of (P := Tryz.prog) Tryz.func10 (by kernel_rfl) rfl args w) (fun a c r hm hc => by
  simp only [List.mem_cons, Prod.mk.injEq, List.not_mem_nil, or_false] at hm
  rcases hm with ⟨rfl, rfl⟩ | ⟨rfl, rfl⟩
  · exact high2r_1 a hc
  · exact high2r_0 a hc)
theorem tp_same {a b : AV} (v : AV) (h : a.val? = b.val?) : (AV.tp [a, v]).val? = (AV.tp [b, v]).val? := by simp only [AV.val?, AV.vals?, h]
theorem same_a {f : Nat} {l : List XV} (x : Fin Pp) (h : Gives Tryz.prog f l (.tp [.ag [.m x, .c (.int .u64 0), .c (.int .u64 0), .c (.int .u64 0), .c (.int .u64 0), .c (.int .u64 0), .c (.int .u64 0)], .v (.bool true)])) : Gives Tryz.prog f l (.tp [.ag (m2 (x, 0)), .v (.bool true)]) := h.same (tp_same _ (ag_same rfl rfl (show flat ([.m x] ++ [.m (0 : Fin Pp)]) = flat ([.m x] ++ [.c (.int .u64 0), .c (.int .u64 0), .c (.int .u64 0), .c (.int .u64 0), .c (.int .u64 0), .c (.int .u64 0)]) by rw [flat_append, flat_append, zero_m])))
theorem same_b {f : Nat} {l : List XV} (x : Fin Pp) (h : Gives Tryz.prog f l (.tp [.ag [.c (.int .u64 0), .c (.int .u64 0), .c (.int .u64 0), .c (.int .u64 0), .c (.int .u64 0), .c (.int .u64 0), .m x], .v (.bool true)])) : Gives Tryz.prog f l (.tp [.ag (m2 (0, x)), .v (.bool true)]) := h.same (tp_same _ (ag_same rfl rfl (show flat ([.m (0 : Fin Pp)] ++ [.m x]) = flat ([.c (.int .u64 0), .c (.int .u64 0), .c (.int .u64 0), .c (.int .u64 0), .c (.int .u64 0), .c (.int .u64 0)] ++ [.m x]) by rw [flat_append, flat_append, zero_m])))
def eInvE : Entry := entry1 81 parM.x (fun a => [(none, .ag [.m (invE a)])])
theorem eInvE_ok : eInvE.OK Tryz.prog := entry1_ok (fun args w => Go.Proofs.enters_of (P := Tryz.prog) Tryz.func81 (by kernel_rfl) rfl args w) (fun a => only (inverseP a))
theorem rootI_a (a : F2) (h2 : a.2 = 0) (hs : sqP a.1) : Gives Tryz.prog 49 [.t (.ag (m2 a))] (.tp [.ag [.m (lowP (rtP a.1)), .c (.int .u64 0), .c (.int .u64 0), .c (.int .u64 0), .c (.int .u64 0), .c (.int .u64 0), .c (.int .u64 0)], .v (.bool true)]) := fn_gives (P := Tryz.prog) (env := [eIsZeroP, eRootP, eNegP, eNorm2, eSmP, eInvE, ePlusP, eMinusP, eTimesP]) ⟨eIsZeroP_ok, eRootP_ok, eNegP_ok, eNorm2_ok, eSmP_ok, eInvE_ok, ePlusP_ok, eMinusP_ok, eTimesP_ok, trivial⟩ Tryz.func49 0 (oN [] [(5, 0), (8, 0)]) (by kernel_rfl) (And.intro (show sqP a.1 from hs) (And.intro (show a.2 = 0 from h2) trivial))
theorem rootI_b (a : F2) (h2 : a.2 = 0) (hs : ¬ sqP a.1) : Gives Tryz.prog 49 [.t (.ag (m2 a))] (.tp [.ag [.c (.int .u64 0), .c (.int .u64 0), .c (.int .u64 0), .c (.int .u64 0), .c (.int .u64 0), .c (.int .u64 0), .m (lowP (rtP (-a.1)))], .v (.bool true)]) := fn_gives (P := Tryz.prog) (env := [eIsZeroP, eRootP, eNegP, eNorm2, eSmP, eInvE, ePlusP, eMinusP, eTimesP]) ⟨eIsZeroP_ok, eRootP_ok, eNegP_ok, eNorm2_ok, eSmP_ok, eInvE_ok, ePlusP_ok, eMinusP_ok, eTimesP_ok, trivial⟩ Tryz.func49 0 (oN [] [(5, 0), (8, 1), (19, 0)]) (by kernel_rfl) (And.intro (show sqP (-a.1) from sq_neg_or hs) (And.intro (show ¬ sqP a.1 from hs) (And.intro (show a.2 = 0 from h2) trivial)))
theorem rootI_c (a : F2) (h2 : a.2 ≠ 0) (h : sq2 a) (hs : sqP (tOne a)) : Gives Tryz.prog 49 [.t (.ag (m2 a))] (.tp [.ag (m2 (part2 a (tOne a))), .v (.bool true)]) := fn_gives (P := Tryz.prog) (env := [eIsZeroP, eRootP, eNegP, eNorm2, eSmP, eInvE, ePlusP, eMinusP, eTimesP]) ⟨eIsZeroP_ok, eRootP_ok, eNegP_ok, eNorm2_ok, eSmP_ok, eInvE_ok, ePlusP_ok, eMinusP_ok, eTimesP_ok, trivial⟩ Tryz.func49 0 (oN [] [(5, 1), (8, 0), (27, 0)]) (by kernel_rfl) (And.intro (show sqP (tOne a) from hs) (And.intro (show sqP (norm2 a) from h) (And.intro (show a.2 ≠ 0 from h2) trivial)))
theorem rootI_d (a : F2) (h2 : a.2 ≠ 0) (h : sq2 a) (hs : ¬ sqP (tOne a)) : Gives Tryz.prog 49 [.t (.ag (m2 a))] (.tp [.ag (m2 (part2 a (tTwo a))), .v (.bool true)]) := fn_gives (P := Tryz.prog) (env := [eIsZeroP, eRootP, eNegP, eNorm2, eSmP, eInvE, ePlusP, eMinusP, eTimesP]) ⟨eIsZeroP_ok, eRootP_ok, eNegP_ok, eNorm2_ok, eSmP_ok, eInvE_ok, ePlusP_ok, eMinusP_ok, eTimesP_ok, trivial⟩ Tryz.func49 0 (oN [] [(5, 1), (8, 0), (27, 1), (42, 0)]) (by kernel_rfl) (And.intro (show sqP (tTwo a) from t_two_sq h h2 hs) (And.intro (show ¬ sqP (tOne a) from hs) (And.intro (show sqP (norm2 a) from h) (And.intro (show a.2 ≠ 0 from h2) trivial))))
theorem rootI_yes (a : F2) (h : sq2 a) : Gives Tryz.prog 49 [.t (.ag (m2 a))] (.tp [.ag (m2 (root2 a)), .v (.bool true)]) := by
  by_cases h2 : a.2 = 0
  · by_cases hs : sqP a.1
    · rw [show root2 a = (lowP (rtP a.1), 0) by unfold root2; rw [if_pos h2, if_pos hs]]
      exact same_a _ (rootI_a a h2 hs)
    · rw [show root2 a = (0, lowP (rtP (-a.1))) by unfold root2; rw [if_pos h2, if_neg hs]]
      exact same_b _ (rootI_b a h2 hs)
  · by_cases hs : sqP (tOne a)
    · rw [show root2 a = part2 a (tOne a) by unfold root2; rw [if_neg h2, if_pos hs]]
      exact rootI_c a h2 h hs
    · rw [show root2 a = part2 a (tTwo a) by unfold root2; rw [if_neg h2, if_neg hs]]
      exact rootI_d a h2 h hs
theorem rootI_no (a : F2) (h : ¬ sq2 a) : Gives Tryz.prog 49 [.t (.ag (m2 a))] (.tp [.ag (List.replicate 12 (.c (.int .u64 0))), .v (.bool false)]) := by
  have h2 : a.2 ≠ 0 := fun e => h (sq2_of_zero e)
  exact fn_gives (P := Tryz.prog) (env := [eIsZeroP, eRootP, eNegP, eNorm2, eSmP, eInvE, ePlusP, eMinusP, eTimesP]) ⟨eIsZeroP_ok, eRootP_ok, eNegP_ok, eNorm2_ok, eSmP_ok, eInvE_ok, ePlusP_ok, eMinusP_ok, eTimesP_ok, trivial⟩ Tryz.func49 0 (oN [] [(5, 1), (8, 1)]) (by kernel_rfl) (And.intro (show ¬ sqP (norm2 a) from h) (And.intro (show a.2 ≠ 0 from h2) trivial))
def eRootI : Entry := entry1 49 parM2.x (fun a => [(some (sq2 a), .tp [.ag (m2 (root2 a)), .v (.bool true)]), (some (¬ sq2 a), .tp [.ag (List.replicate 12 (.c (.int .u64 0))), .v (.bool false)])])
theorem eRootI_ok : eRootI.OK Tryz.prog := entry1_ok (fun args w => Go.Proofs.enters_of (P := Tryz.prog) Tryz.func49 (by kernel_rfl) rfl args w) (fun a c r hm hc => by
  simp only [List.mem_cons, Prod.mk.injEq, List.not_mem_nil, or_false] at hm
  rcases hm with ⟨rfl, rfl⟩ | ⟨rfl, rfl⟩
  · exact rootI_yes a hc
  · exact rootI_no a hc)
theorem rootII_yes (a : F2) (h : sq2 a) : Gives Tryz.prog 21 [.t (.ag (m2 a))] (.tp [.ag (m2 (rt2 a)), .v (.bool true)]) := by
  by_cases hh : hi2 (root2 a)
  · rw [show rt2 a = neg2 (root2 a) from if_pos hh]; exact fn_gives (P := Tryz.prog) (env := [eRootI, eHigh2, eNeg2]) ⟨eRootI_ok, eHigh2_ok, eNeg2_ok, trivial⟩ Tryz.func21 0 (oN [] [(4, 0), (14, 0)]) (by kernel_rfl) (And.intro (show hi2 (root2 a) from hh) (And.intro (show sq2 a from h) trivial))
  · rw [show rt2 a = root2 a from if_neg hh]; exact fn_gives (P := Tryz.prog) (env := [eRootI, eHigh2, eNeg2]) ⟨eRootI_ok, eHigh2_ok, eNeg2_ok, trivial⟩ Tryz.func21 0 (oN [] [(4, 0), (14, 1)]) (by kernel_rfl) (And.intro (show ¬ hi2 (root2 a) from hh) (And.intro (show sq2 a from h) trivial))
theorem rootII_no (a : F2) (h : ¬ sq2 a) : Gives Tryz.prog 21 [.t (.ag (m2 a))] (.tp [.ag (List.replicate 12 (.c (.int .u64 0))), .v (.bool false)]) := fn_gives (P := Tryz.prog) (env := [eRootI, eHigh2, eNeg2]) ⟨eRootI_ok, eHigh2_ok, eNeg2_ok, trivial⟩ Tryz.func21 0 (oN [] [(4, 1)]) (by kernel_rfl) (And.intro (show ¬ sq2 a from h) trivial)
def eRoot2 : Entry := entry1 21 parM2.x (fun a => [(some (sq2 a), .tp [.ag (m2 (rt2 a)), .v (.bool true)]), (some (¬ sq2 a), .tp [.ag (List.replicate 12 (.c (.int .u64 0))), .v (.bool false)])])
theorem eRoot2_ok : eRoot2.OK Tryz.prog := entry1_ok (fun args w => Go.Proofs.enters_of (P := Tryz.prog) Tryz.func21 (by kernel_rfl) rfl args w) (fun a c r hm hc => by
  simp only [List.mem_cons, Prod.mk.injEq, List.not_mem_nil, or_false] at hm
  rcases hm with ⟨rfl, rfl⟩ | ⟨rfl, rfl⟩
  · exact rootII_yes a hc
  · exact rootII_no a hc)
theorem eDRoot_0 : ∀ a : F2 ⊕ N2, sm2 a ∧ sq2 (el2 a) → Gives Tryz.prog 9 [par2.c a] (.tp [.ag (q2 (rt2 (el2 a))), .v (.int .i64 0)])
  | .inl a, h => fn_gives (P := Tryz.prog) (env := [eIn2, eOut2, eRoot2]) ⟨eIn2_ok, eOut2_ok, eRoot2_ok, trivial⟩ Tryz.func9 0 (oN [] [(5, 0)]) (by kernel_rfl) (And.intro (show sq2 (el2 (.inl a)) from h.2) trivial)
  | .inr a, h => fn_gives (P := Tryz.prog) (env := [eIn2, eOut2, eRoot2]) ⟨eIn2_ok, eOut2_ok, eRoot2_ok, trivial⟩ Tryz.func9 0 (oN [] [(5, 0)]) (by kernel_rfl) (And.intro (show sq2 (el2 (.inr a)) from h.2) (And.intro (show sm2 (.inr a) from h.1) trivial))
theorem eDRoot_1 : ∀ a : F2 ⊕ N2, sm2 a ∧ ¬ sq2 (el2 a) → Gives Tryz.prog 9 [par2.c a] (.tp [.ag (List.replicate 12 (.c (.int .u64 0))), .v (.int .i64 21)])
  | .inl a, h => fn_gives (P := Tryz.prog) (env := [eIn2, eOut2, eRoot2]) ⟨eIn2_ok, eOut2_ok, eRoot2_ok, trivial⟩ Tryz.func9 0 (oN [] [(5, 1)]) (by kernel_rfl) (And.intro (show ¬ sq2 (el2 (.inl a)) from h.2) trivial)
  | .inr a, h => fn_gives (P := Tryz.prog) (env := [eIn2, eOut2, eRoot2]) ⟨eIn2_ok, eOut2_ok, eRoot2_ok, trivial⟩ Tryz.func9 0 (oN [] [(5, 1)]) (by kernel_rfl) (And.intro (show ¬ sq2 (el2 (.inr a)) from h.2) (And.intro (show sm2 (.inr a) from h.1) trivial))
def eDRoot : Entry := entry1 9 par2 (fun a => [(some (sm2 a ∧ sq2 (el2 a)), .tp [.ag (q2 (rt2 (el2 a))), .v (.int .i64 0)]), (some (sm2 a ∧ ¬ sq2 (el2 a)), .tp [.ag (List.replicate 12 (.c (.int .u64 0))), .v (.int .i64 21)])])
theorem eDRoot_ok : eDRoot.OK Tryz.prog := entry1_ok (fun args w => Go.Proofs.enters_of (P := Tryz.prog) Tryz.func9 (by kernel_rfl) rfl args w) (fun a c r hm hc => by
  simp only [List.mem_cons, Prod.mk.injEq, List.not_mem_nil, or_false] at hm
  rcases hm with ⟨rfl, rfl⟩ | ⟨rfl, rfl⟩
  · exact eDRoot_0 a hc
  · exact eDRoot_1 a hc)
theorem sq2r_0 (a : F2) (h : sq2 a) : Gives Tryz.prog 8 [.t (.ag (q2 a))] (.v (.bool true)) := fn_gives (P := Tryz.prog) (env := [eMulPr, eAddP, eSquareP]) ⟨eMulPr_ok, eAddP_ok, eSquareP_ok, trivial⟩ Tryz.func8 0 (oN [] [(16, 0)]) (by kernel_rfl) (And.intro (show sqP (norm2 a) from h) trivial)
theorem sq2r_1 (a : F2) (h : ¬ sq2 a) : Gives Tryz.prog 8 [.t (.ag (q2 a))] (.v (.bool false)) := fn_gives (P := Tryz.prog) (env := [eMulPr, eAddP, eSquareP]) ⟨eMulPr_ok, eAddP_ok, eSquareP_ok, trivial⟩ Tryz.func8 0 (oN [] [(16, 1)]) (by kernel_rfl) (And.intro (show ¬ sqP (norm2 a) from h) trivial)
def eSq2r : Entry := entry1 8 parL2.x (fun a => [(some (sq2 a), .v (.bool true)), (some (¬ sq2 a), .v (.bool false))])
theorem eSq2r_ok : eSq2r.OK Tryz.prog := entry1_ok (fun args w => Go.Proofs.enters_of (P := Tryz.prog) Tryz.func8 (by kernel_rfl) rfl args w) (fun a c r hm hc => by
  simp only [List.mem_cons, Prod.mk.injEq, List.not_mem_nil, or_false] at hm
  rcases hm with ⟨rfl, rfl⟩ | ⟨rfl, rfl⟩
  · exact sq2r_0 a hc
  · exact sq2r_1 a hc)
end Go.Proofs.YtbejkhmdmojojaaGreat
