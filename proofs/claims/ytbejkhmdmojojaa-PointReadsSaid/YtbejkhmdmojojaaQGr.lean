/- Pruned: Gr. -/
import Derived.Test.YtbejkhmdmojojaaQRts
import Derived.Test.YtbejkhmdmojojaaQPwP
import Derived.Test.YtbejkhmdmojojaaQRmP
import Derived.Test.YtbejkhmdmojojaaQCmP
import Derived.Test.YtbejkhmdmojojaaQRts2
import Derived.Test.YtbejkhmdmojojaaQTo3
import Derived.Test.YtbejkhmdmojojaaQRt
/- Contracts about high elements and roots: core, the layer fp, the reference. -/
set_option linter.unusedSimpArgs false
set_option linter.unusedVariables false
namespace Go.Proofs.Ytbejkhmdmojojaa
open Go.Ev Go.RowKit

theorem highP_2 (a : Fin Pp) (h : hiP a) : Gives Try.prog 87 [.t (.ag [.m a])] (.v (.bool true)) := fn_gives (P := Try.prog) (env := [eNegP, eOutP, eCmpP]) ⟨eNegP_ok, eOutP_ok, eCmpP_ok, trivial⟩ Try.func87 0 (oN [] [(13, 2)]) (by kernel_rfl) (And.intro (show a.val < 39402006196394479212279040100143613805079739270465446667948293404245721771497210611414266254884915640806627990306816 ∧ (-a).val < 39402006196394479212279040100143613805079739270465446667948293404245721771497210611414266254884915640806627990306816 ∧ (-a).val < a.val from ⟨(Nat.lt_trans a.isLt (by decide)), (Nat.lt_trans (-a).isLt (by decide)), h⟩) trivial)
theorem highP_1 (a : Fin Pp) (h : a.val = (-a).val) : Gives Try.prog 87 [.t (.ag [.m a])] (.v (.bool false)) := fn_gives (P := Try.prog) (env := [eNegP, eOutP, eCmpP]) ⟨eNegP_ok, eOutP_ok, eCmpP_ok, trivial⟩ Try.func87 0 (oN [] [(13, 1)]) (by kernel_rfl) (And.intro (show a.val < 39402006196394479212279040100143613805079739270465446667948293404245721771497210611414266254884915640806627990306816 ∧ (-a).val < 39402006196394479212279040100143613805079739270465446667948293404245721771497210611414266254884915640806627990306816 ∧ a.val = (-a).val from ⟨(Nat.lt_trans a.isLt (by decide)), (Nat.lt_trans (-a).isLt (by decide)), h⟩) trivial)
theorem highP_0 (a : Fin Pp) (h : a.val < (-a).val) : Gives Try.prog 87 [.t (.ag [.m a])] (.v (.bool false)) := fn_gives (P := Try.prog) (env := [eNegP, eOutP, eCmpP]) ⟨eNegP_ok, eOutP_ok, eCmpP_ok, trivial⟩ Try.func87 0 (oN [] [(13, 0)]) (by kernel_rfl) (And.intro (show a.val < 39402006196394479212279040100143613805079739270465446667948293404245721771497210611414266254884915640806627990306816 ∧ (-a).val < 39402006196394479212279040100143613805079739270465446667948293404245721771497210611414266254884915640806627990306816 ∧ a.val < (-a).val from ⟨(Nat.lt_trans a.isLt (by decide)), (Nat.lt_trans (-a).isLt (by decide)), h⟩) trivial)
theorem highP_no (a : Fin Pp) (h : ¬ hiP a) : Gives Try.prog 87 [.t (.ag [.m a])] (.v (.bool false)) := by
  rcases Nat.lt_or_eq_of_le (Nat.le_of_not_lt h) with h | h
  · exact highP_0 a h
  · exact highP_1 a h
def eHighP : Entry := entry1 87 parM.x (fun a => [(some (hiP a), .v (.bool true)), (some (¬ hiP a), .v (.bool false))])
theorem eHighP_ok : eHighP.OK Try.prog := entry1_ok (fun args w => Go.Proofs.enters_of (P := Try.prog) Try.func87 (by kernel_rfl) rfl args w) (fun a c r hm hc => by
  simp only [List.mem_cons, Prod.mk.injEq, List.not_mem_nil, or_false] at hm
  rcases hm with ⟨rfl, rfl⟩ | ⟨rfl, rfl⟩
  · exact highP_2 a hc
  · exact highP_no a hc)
theorem lowGives (a : Fin Pp) : Gives Try.prog 107 [.t (.ag [.m a])] (.ag [.m (lowP a)]) := by
  by_cases h : hiP a
  · rw [show lowP a = -a from if_pos h]; exact fn_gives (P := Try.prog) (env := [eHighP, eNegP]) ⟨eHighP_ok, eNegP_ok, trivial⟩ Try.func107 0 (oN [] [(3, 0)]) (by kernel_rfl) (And.intro (show hiP a from h) trivial)
  · rw [show lowP a = a from if_neg h]; exact fn_gives (P := Try.prog) (env := [eHighP, eNegP]) ⟨eHighP_ok, eNegP_ok, trivial⟩ Try.func107 0 (oN [] [(3, 1)]) (by kernel_rfl) (And.intro (show ¬ hiP a from h) trivial)
def eLowP : Entry := entry1 107 parM.x (fun a => [(none, .ag [.m (lowP a)])])
theorem eLowP_ok : eLowP.OK Try.prog := entry1_ok (fun args w => Go.Proofs.enters_of (P := Try.prog) Try.func107 (by kernel_rfl) rfl args w) (fun a => only (lowGives a))
theorem rootP_yes (a : Fin Pp) (h : sqP a) : Gives Try.prog 63 [.t (.ag [.m a])] (.tp [.ag [.m (lowP (rtP a))], .v (.bool true)]) := fn_gives (P := Try.prog) (env := [eSmP, ePowerP, eTimesP, eLowP]) ⟨eSmP_ok, ePowerP_ok, eTimesP_ok, eLowP_ok, trivial⟩ Try.func63 1 (oN [] [(165, 0)]) (by kernel_rfl) (And.intro (show flat [.m (rtP a * rtP a)] = flat [.m a] from by rw [show rtP a * rtP a = a from h]) (And.intro (show ofP (1 % 18446744073709551616) = 1 ∧ rootE < 18446744073709551616 ^ 6 from ⟨by decide, by decide⟩) trivial))
theorem rootP_no (a : Fin Pp) (h : ¬ sqP a) : Gives Try.prog 63 [.t (.ag [.m a])] (.tp [.ag [.c (.int .u64 0), .c (.int .u64 0), .c (.int .u64 0), .c (.int .u64 0), .c (.int .u64 0), .c (.int .u64 0)], .v (.bool false)]) := fn_gives (P := Try.prog) (env := [eSmP, ePowerP, eTimesP, eLowP]) ⟨eSmP_ok, ePowerP_ok, eTimesP_ok, eLowP_ok, trivial⟩ Try.func63 1 (oN [] [(165, 1)]) (by kernel_rfl) (And.intro (show ¬ flat [.m (rtP a * rtP a)] = flat [.m a] from fun e => h (flat_m_inj e)) (And.intro (show ofP (1 % 18446744073709551616) = 1 ∧ rootE < 18446744073709551616 ^ 6 from ⟨by decide, by decide⟩) trivial))
def eRootP : Entry := entry1 63 parM.x (fun a => [(some (sqP a), .tp [.ag [.m (lowP (rtP a))], .v (.bool true)]), (some (¬ sqP a), .tp [.ag [.c (.int .u64 0), .c (.int .u64 0), .c (.int .u64 0), .c (.int .u64 0), .c (.int .u64 0), .c (.int .u64 0)], .v (.bool false)])])
theorem eRootP_ok : eRootP.OK Try.prog := entry1_ok (fun args w => Go.Proofs.enters_of (P := Try.prog) Try.func63 (by kernel_rfl) rfl args w) (fun a c r hm hc => by
  simp only [List.mem_cons, Prod.mk.injEq, List.not_mem_nil, or_false] at hm
  rcases hm with ⟨rfl, rfl⟩ | ⟨rfl, rfl⟩
  · exact rootP_yes a hc
  · exact rootP_no a hc)
theorem eFRootP_0 : ∀ a : Fin Pp ⊕ Nat, smtP a ∧ sqP (eltP a) → Gives Try.prog 23 [par1P.c a] (.tp [.ag [.q (lowP (rtP (eltP a)))], .v (.int .i64 0)])
  | .inl a, h => fn_gives (P := Try.prog) (env := [eInPq, eOutP, eRootP]) ⟨eInPq_ok, eOutP_ok, eRootP_ok, trivial⟩ Try.func23 0 (oN [] [(5, 0)]) (by kernel_rfl) (And.intro (show sqP (eltP (.inl a)) from h.2) trivial)
  | .inr a, h => fn_gives (P := Try.prog) (env := [eInPq, eOutP, eRootP]) ⟨eInPq_ok, eOutP_ok, eRootP_ok, trivial⟩ Try.func23 0 (oN [] [(5, 0)]) (by kernel_rfl) (And.intro (show sqP (eltP (.inr a)) from h.2) (And.intro (show smtP (.inr a) from h.1) trivial))
theorem eFRootP_1 : ∀ a : Fin Pp ⊕ Nat, smtP a ∧ ¬ sqP (eltP a) → Gives Try.prog 23 [par1P.c a] (.tp [.ag [.c (.int .u64 0), .c (.int .u64 0), .c (.int .u64 0), .c (.int .u64 0), .c (.int .u64 0), .c (.int .u64 0)], .v (.int .i64 21)])
  | .inl a, h => fn_gives (P := Try.prog) (env := [eInPq, eOutP, eRootP]) ⟨eInPq_ok, eOutP_ok, eRootP_ok, trivial⟩ Try.func23 0 (oN [] [(5, 1)]) (by kernel_rfl) (And.intro (show ¬ sqP (eltP (.inl a)) from h.2) trivial)
  | .inr a, h => fn_gives (P := Try.prog) (env := [eInPq, eOutP, eRootP]) ⟨eInPq_ok, eOutP_ok, eRootP_ok, trivial⟩ Try.func23 0 (oN [] [(5, 1)]) (by kernel_rfl) (And.intro (show ¬ sqP (eltP (.inr a)) from h.2) (And.intro (show smtP (.inr a) from h.1) trivial))
def eFRootP : Entry := entry1 23 par1P (fun a => [(some (smtP a ∧ sqP (eltP a)), .tp [.ag [.q (lowP (rtP (eltP a)))], .v (.int .i64 0)]), (some (smtP a ∧ ¬ sqP (eltP a)), .tp [.ag [.c (.int .u64 0), .c (.int .u64 0), .c (.int .u64 0), .c (.int .u64 0), .c (.int .u64 0), .c (.int .u64 0)], .v (.int .i64 21)])])
theorem eFRootP_ok : eFRootP.OK Try.prog := entry1_ok (fun args w => Go.Proofs.enters_of (P := Try.prog) Try.func23 (by kernel_rfl) rfl args w) (fun a c r hm hc => by
  simp only [List.mem_cons, Prod.mk.injEq, List.not_mem_nil, or_false] at hm
  rcases hm with ⟨rfl, rfl⟩ | ⟨rfl, rfl⟩
  · exact eFRootP_0 a hc
  · exact eFRootP_1 a hc)
theorem highPr_0 (a : Fin Pp) (h : hiP a) : Gives Try.prog 24 [.t (.ag [.q a])] (.v (.bool true)) := fn_gives (P := Try.prog) (env := [eNegPr, eLessP]) ⟨eNegPr_ok, eLessP_ok, trivial⟩ Try.func24 0 (oN [] [(5, 0)]) (by kernel_rfl) (And.intro (show (-a).val < 39402006196394479212279040100143613805079739270465446667948293404245721771497210611414266254884915640806627990306816 ∧ a.val < 39402006196394479212279040100143613805079739270465446667948293404245721771497210611414266254884915640806627990306816 ∧ (-a).val < a.val from ⟨(Nat.lt_trans (-a).isLt (by decide)), (Nat.lt_trans a.isLt (by decide)), h⟩) trivial)
theorem highPr_1 (a : Fin Pp) (h : ¬ hiP a) : Gives Try.prog 24 [.t (.ag [.q a])] (.v (.bool false)) := fn_gives (P := Try.prog) (env := [eNegPr, eLessP]) ⟨eNegPr_ok, eLessP_ok, trivial⟩ Try.func24 0 (oN [] [(5, 1)]) (by kernel_rfl) (And.intro (show (-a).val < 39402006196394479212279040100143613805079739270465446667948293404245721771497210611414266254884915640806627990306816 ∧ a.val < 39402006196394479212279040100143613805079739270465446667948293404245721771497210611414266254884915640806627990306816 ∧ a.val ≤ (-a).val from ⟨(Nat.lt_trans (-a).isLt (by decide)), (Nat.lt_trans a.isLt (by decide)), Nat.le_of_not_lt h⟩) trivial)
def eHighPr : Entry := entry1 24 parQ.x (fun a => [(some (hiP a), .v (.bool true)), (some (¬ hiP a), .v (.bool false))])
theorem eHighPr_ok : eHighPr.OK Try.prog := entry1_ok (fun args w => Go.Proofs.enters_of (P := Try.prog) Try.func24 (by kernel_rfl) rfl args w) (fun a c r hm hc => by
  simp only [List.mem_cons, Prod.mk.injEq, List.not_mem_nil, or_false] at hm
  rcases hm with ⟨rfl, rfl⟩ | ⟨rfl, rfl⟩
  · exact highPr_0 a hc
  · exact highPr_1 a hc)
def eHalfP : Entry := entry1 68 parN6.x (fun a => [(some (a = 4002409555221667393417789825735904156556882819939007885332058136124031650490837864442687629129015664037894272559787), .ag [.n 6 halfP])])
theorem halfGives : Gives Try.prog 68 [.t (.ag [.n 6 4002409555221667393417789825735904156556882819939007885332058136124031650490837864442687629129015664037894272559787])] (.ag [.n 6 halfP]) := (fn_gives (P := Try.prog) (env := []) trivial Try.func68 0 o0 (r := .ag [.n 1 15924587544893707605, .n 1 1105070755758604287, .n 1 12941209323636816658, .n 1 12843041017062132063, .n 1 2706051889235351147, .n 1 936899308823769933]) (by kernel_rfl) trivial).same (by kernel_rfl)
theorem eHalfP_ok : eHalfP.OK Try.prog := entry1_ok (fun args w => Go.Proofs.enters_of (P := Try.prog) Try.func68 (by kernel_rfl) rfl args w) (fun a => onlyIf (fun h => by subst h; exact halfGives))
theorem squareP_0 (a : Fin Pp) (h : sqP a) : Gives Try.prog 22 [.t (.ag [.q a])] (.v (.bool true)) := by
  by_cases h0 : a = 0
  · exact fn_gives (P := Try.prog) (env := [eRRP, eHalfP, ePowPr]) ⟨eRRP_ok, eHalfP_ok, ePowPr_ok, trivial⟩ Try.func22 0 (oN [] [(4, 0)]) (by kernel_rfl) (And.intro (show flat [.q a] = flat [.c (.int .u64 0), .c (.int .u64 0), .c (.int .u64 0), .c (.int .u64 0), .c (.int .u64 0), .c (.int .u64 0)] from by rw [h0]; kernel_rfl) trivial)
  · exact fn_gives (P := Try.prog) (env := [eRRP, eHalfP, ePowPr]) ⟨eRRP_ok, eHalfP_ok, ePowPr_ok, trivial⟩ Try.func22 0 (oN [] [(4, 1), (11, 0)]) (by kernel_rfl) (And.intro (show flat [.q (pwP a halfP)] = flat [.c (.int .u64 1), .c (.int .u64 0), .c (.int .u64 0), .c (.int .u64 0), .c (.int .u64 0), .c (.int .u64 0)] from by rw [(sq_iff' h0).1 h]; kernel_rfl) (And.intro (show halfP < 18446744073709551616 ^ 6 from by decide) (And.intro (show 4002409555221667393417789825735904156556882819939007885332058136124031650490837864442687629129015664037894272559787 = 4002409555221667393417789825735904156556882819939007885332058136124031650490837864442687629129015664037894272559787 from rfl) (And.intro (show ¬ flat [.q a] = flat [.c (.int .u64 0), .c (.int .u64 0), .c (.int .u64 0), .c (.int .u64 0), .c (.int .u64 0), .c (.int .u64 0)] from ne_zerosP h0) trivial))))
theorem squareP_1 (a : Fin Pp) (h : ¬ sqP a) : Gives Try.prog 22 [.t (.ag [.q a])] (.v (.bool false)) := by
  have h0 : a ≠ 0 := fun e => h (by rw [e]; exact sq_zero)
  exact fn_gives (P := Try.prog) (env := [eRRP, eHalfP, ePowPr]) ⟨eRRP_ok, eHalfP_ok, ePowPr_ok, trivial⟩ Try.func22 0 (oN [] [(4, 1), (11, 1)]) (by kernel_rfl) (And.intro (show ¬ flat [.q (pwP a halfP)] = flat [.c (.int .u64 1), .c (.int .u64 0), .c (.int .u64 0), .c (.int .u64 0), .c (.int .u64 0), .c (.int .u64 0)] from fun e => h ((sq_iff' h0).2 (flat_q_inj (e.trans (show _ = flat [.q (1 : Fin Pp)] by kernel_rfl))))) (And.intro (show halfP < 18446744073709551616 ^ 6 from by decide) (And.intro (show 4002409555221667393417789825735904156556882819939007885332058136124031650490837864442687629129015664037894272559787 = 4002409555221667393417789825735904156556882819939007885332058136124031650490837864442687629129015664037894272559787 from rfl) (And.intro (show ¬ flat [.q a] = flat [.c (.int .u64 0), .c (.int .u64 0), .c (.int .u64 0), .c (.int .u64 0), .c (.int .u64 0), .c (.int .u64 0)] from ne_zerosP h0) trivial))))
def eSquareP : Entry := entry1 22 parQ.x (fun a => [(some (sqP a), .v (.bool true)), (some (¬ sqP a), .v (.bool false))])
theorem eSquareP_ok : eSquareP.OK Try.prog := entry1_ok (fun args w => Go.Proofs.enters_of (P := Try.prog) Try.func22 (by kernel_rfl) rfl args w) (fun a c r hm hc => by
  simp only [List.mem_cons, Prod.mk.injEq, List.not_mem_nil, or_false] at hm
  rcases hm with ⟨rfl, rfl⟩ | ⟨rfl, rfl⟩
  · exact squareP_0 a hc
  · exact squareP_1 a hc)
end Go.Proofs.Ytbejkhmdmojojaa

/- Contracts about high pairs and their roots: core, the layer duo, the reference. -/
set_option linter.unusedSimpArgs false
set_option linter.unusedVariables false
namespace Go.Proofs.Ytbejkhmdmojojaa
open Go.Ev Go.RowKit

theorem zero_m : flat [.m (0 : Fin Pp)] = flat [.c (.int .u64 0), .c (.int .u64 0), .c (.int .u64 0), .c (.int .u64 0), .c (.int .u64 0), .c (.int .u64 0)] := by kernel_rfl
theorem isZero_0 (a : Fin Pp) (h : a = 0) : Gives Try.prog 43 [.t (.ag [.m a])] (.v (.bool true)) := fn_gives (P := Try.prog) (env := []) trivial Try.func43 0 (oN [] [(4, 0)]) (by kernel_rfl) (And.intro (show flat [.m a] = flat [.c (.int .u64 0), .c (.int .u64 0), .c (.int .u64 0), .c (.int .u64 0), .c (.int .u64 0), .c (.int .u64 0)] from by rw [h]; exact zero_m) trivial)
theorem isZero_1 (a : Fin Pp) (h : a ≠ 0) : Gives Try.prog 43 [.t (.ag [.m a])] (.v (.bool false)) := fn_gives (P := Try.prog) (env := []) trivial Try.func43 0 (oN [] [(4, 1)]) (by kernel_rfl) (And.intro (show ¬ flat [.m a] = flat [.c (.int .u64 0), .c (.int .u64 0), .c (.int .u64 0), .c (.int .u64 0), .c (.int .u64 0), .c (.int .u64 0)] from fun e => h (flat_m_inj (e.trans zero_m.symm))) trivial)
def eIsZeroP : Entry := entry1 43 parM.x (fun a => [(some (a = 0), .v (.bool true)), (some (a ≠ 0), .v (.bool false))])
theorem eIsZeroP_ok : eIsZeroP.OK Try.prog := entry1_ok (fun args w => Go.Proofs.enters_of (P := Try.prog) Try.func43 (by kernel_rfl) rfl args w) (fun a c r hm hc => by
  simp only [List.mem_cons, Prod.mk.injEq, List.not_mem_nil, or_false] at hm
  rcases hm with ⟨rfl, rfl⟩ | ⟨rfl, rfl⟩
  · exact isZero_0 a hc
  · exact isZero_1 a hc)
end Go.Proofs.Ytbejkhmdmojojaa
