/- Pruned: Gr. -/
import Derived.Test.YtokjhbmmdmeafaaGreatQHa
import Derived.Test.YtokjhbmmdmeafaaGreatQHd
import Derived.Test.YtokjhbmmdmeafaaGreatQHc
import Derived.Test.YtokjhbmmdmeafaaGreatQE2
import Derived.Test.YtokjhbmmdmeafaaGreatQHe
import Derived.Test.YtokjhbmmdmeafaaGreatQHf
set_option linter.unusedSimpArgs false
set_option linter.unusedVariables false
namespace Go.Proofs.YtokjhbmmdmeafaaGreat
open Go.Ev Go.RowKit
open Tryz
theorem UR (a : Fin Pp) (h : hiP a) : Gives prog 111 [.t (.ag [.m a])] (.v (.bool true)) := pX (P := prog) (env := [vI, vc, KS]) ⟨sF, sc, Dr, tt0⟩ func111 0 (oN [] [(13, 2)]) (by kernel_rfl) (ai (show a.val < 39402006196394479212279040100143613805079739270465446667948293404245721771497210611414266254884915640806627990306816 /\ (-a).val < 39402006196394479212279040100143613805079739270465446667948293404245721771497210611414266254884915640806627990306816 /\ (-a).val < a.val from ⟨(Nat.lt_trans a.isLt (by decide)), (Nat.lt_trans (-a).isLt (by decide)), h⟩) tt0)
theorem Vf (a : Fin Pp) (h : a.val = (-a).val) : Gives prog 111 [.t (.ag [.m a])] (.v (.bool false)) := pX (P := prog) (env := [vI, vc, KS]) ⟨sF, sc, Dr, tt0⟩ func111 0 (oN [] [(13, 1)]) (by kernel_rfl) (ai (show a.val < 39402006196394479212279040100143613805079739270465446667948293404245721771497210611414266254884915640806627990306816 /\ (-a).val < 39402006196394479212279040100143613805079739270465446667948293404245721771497210611414266254884915640806627990306816 /\ a.val = (-a).val from ⟨(Nat.lt_trans a.isLt (by decide)), (Nat.lt_trans (-a).isLt (by decide)), h⟩) tt0)
theorem UV (a : Fin Pp) (h : a.val < (-a).val) : Gives prog 111 [.t (.ag [.m a])] (.v (.bool false)) := pX (P := prog) (env := [vI, vc, KS]) ⟨sF, sc, Dr, tt0⟩ func111 0 (oN [] [(13, 0)]) (by kernel_rfl) (ai (show a.val < 39402006196394479212279040100143613805079739270465446667948293404245721771497210611414266254884915640806627990306816 /\ (-a).val < 39402006196394479212279040100143613805079739270465446667948293404245721771497210611414266254884915640806627990306816 /\ a.val < (-a).val from ⟨(Nat.lt_trans a.isLt (by decide)), (Nat.lt_trans (-a).isLt (by decide)), h⟩) tt0)
theorem PA (a : Fin Pp) (h : ¬ hiP a) : Gives prog 111 [.t (.ag [.m a])] (.v (.bool false)) := by
 rcases Nat.lt_or_eq_of_le (Nat.le_of_not_lt h) with h | h
 ·exact UV a h
 ·exact Vf a h
def wJ : Entry := ql 111 ww.x (fun a => [(some (hiP a), .v (.bool true)), (some (¬ hiP a), .v (.bool false))])
theorem tV : wJ.OK prog := qb (fun args w => Go.Proofs.enters_of (P := prog) func111 (by kernel_rfl) rfl args w) (fun a c r hm hc => by
 simp only [List.mem_cons, pi0, List.not_mem_nil, or_false] at hm
 rcases hm with ⟨rfl, rfl⟩ | ⟨rfl, rfl⟩
 ·exact UR a hc
 ·exact PA a hc)
theorem QF (a : Fin Pp) : Gives prog 101 [.t (.ag [.m a])] (.ag [.m (lowP a)]) := by
 by_cases h : hiP a
 ·rw [show lowP a = -a from if_pos h]; exact pX (P := prog) (env := [wJ, vI]) ⟨tV, sF, tt0⟩ func101 0 (oN [] [(3, 0)]) (by kernel_rfl) (ai (show hiP a from h) tt0)
 ·rw [show lowP a = a from if_neg h]; exact pX (P := prog) (env := [wJ, vI]) ⟨tV, sF, tt0⟩ func101 0 (oN [] [(3, 1)]) (by kernel_rfl) (ai (show ¬ hiP a from h) tt0)
def OB : Entry := ql 101 ww.x (fun a => [(none, .ag [.m (lowP a)])])
theorem Io : OB.OK prog := qb (fun args w => Go.Proofs.enters_of (P := prog) func101 (by kernel_rfl) rfl args w) (fun a => only (QF a))
def Vw := PLift.up (ai (show ofP (1 % 18446744073709551616) = 1 /\ Lr < 18446744073709551616 ^ 6 from ⟨by decide, by decide⟩) tt0)
theorem Mf (a : Fin Pp) (h : sqP a) : Gives prog 64 [.t (.ag [.m a])] (.tp [.ag [.m (lowP (rtP a))], .v (.bool true)]) := pX (P := prog) (env := [tO, BU, qE, OB]) ⟨qK, zf, qp, Io, tt0⟩ func64 1 (oN [] [(165, 0)]) (by kernel_rfl) (ai (show flat [.m (rtP a * rtP a)] = flat [.m a] from by rw [show rtP a * rtP a = a from h]) Vw.down)
abbrev Wp : List Ch := [.c (.int .u64 0), .c (.int .u64 0), .c (.int .u64 0), .c (.int .u64 0), .c (.int .u64 0), .c (.int .u64 0)]
theorem Ow (a : Fin Pp) (h : ¬ sqP a) : Gives prog 64 [.t (.ag [.m a])] (.tp [.ag Wp, .v (.bool false)]) := pX (P := prog) (env := [tO, BU, qE, OB]) ⟨qK, zf, qp, Io, tt0⟩ func64 1 (oN [] [(165, 1)]) (by kernel_rfl) (ai (show ¬ flat [.m (rtP a * rtP a)] = flat [.m a] from fun e => h (wC e)) Vw.down)
def ye : Entry := ql 64 ww.x (fun a => [(some (sqP a), .tp [.ag [.m (lowP (rtP a))], .v (.bool true)]), (some (¬ sqP a), .tp [.ag [.c (.int .u64 0), .c (.int .u64 0), .c (.int .u64 0), .c (.int .u64 0), .c (.int .u64 0), .c (.int .u64 0)], .v (.bool false)])])
theorem uW : ye.OK prog := qb (fun args w => Go.Proofs.enters_of (P := prog) func64 (by kernel_rfl) rfl args w) (fun a c r hm hc => by
 simp only [List.mem_cons, pi0, List.not_mem_nil, or_false] at hm
 rcases hm with ⟨rfl, rfl⟩ | ⟨rfl, rfl⟩
 ·exact Mf a hc
 ·exact Ow a hc)
end Go.Proofs.YtokjhbmmdmeafaaGreat
set_option linter.unusedSimpArgs false
set_option linter.unusedVariables false
namespace Go.Proofs.YtokjhbmmdmeafaaGreat
open Go.Ev Go.RowKit
open Tryz
theorem zC : flat [.m (0 : Fin Pp)] = flat [.c (.int .u64 0), .c (.int .u64 0), .c (.int .u64 0), .c (.int .u64 0), .c (.int .u64 0), .c (.int .u64 0)] := by kernel_rfl
theorem R5 (a : Fin Pp) (h : a = 0) : Gives prog 55 [.t (.ag [.m a])] (.v (.bool true)) := pX (P := prog) (env := []) trivial func55 0 (oN [] [(4, 0)]) (by kernel_rfl) (ai (show flat [.m a] = flat [.c (.int .u64 0), .c (.int .u64 0), .c (.int .u64 0), .c (.int .u64 0), .c (.int .u64 0), .c (.int .u64 0)] from by rw [h]; exact zC) tt0)
theorem Sq (a : Fin Pp) (h : a ≠ 0) : Gives prog 55 [.t (.ag [.m a])] (.v (.bool false)) := pX (P := prog) (env := []) trivial func55 0 (oN [] [(4, 1)]) (by kernel_rfl) (ai (show ¬ flat [.m a] = flat Wp from fun e => h (wC (e.trans zC.symm))) tt0)
def sR : Entry := ql 55 ww.x (fun a => [(some (a = 0), .v (.bool true)), (some (a ≠ 0), .v (.bool false))])
theorem rC : sR.OK prog := qb (fun args w => Go.Proofs.enters_of (P := prog) func55 (by kernel_rfl) rfl args w) (fun a c r hm hc => by
 simp only [List.mem_cons, pi0, List.not_mem_nil, or_false] at hm
 rcases hm with ⟨rfl, rfl⟩ | ⟨rfl, rfl⟩
 ·exact R5 a hc
 ·exact Sq a hc)
theorem Vl (a : F2) (h : hi2 a) : Gives prog 105 [.t (.ag (m2 a))] (.v (.bool true)) := by
 by_cases h2 : a.2 = 0
 ·exact pX (P := prog) (env := [sR, wJ]) ⟨rC, tV, tt0⟩ func105 0 (oN [] [(4, 0), (7, 0)]) (by kernel_rfl) (ai (show hiP a.1 from by unfold hi2 at h; rw [if_pos h2] at h; exact h) (ai (show a.2 = 0 from h2) tt0))
 ·exact pX (P := prog) (env := [sR, wJ]) ⟨rC, tV, tt0⟩ func105 0 (oN [] [(4, 1), (7, 0)]) (by kernel_rfl) (ai (show hiP a.2 from by unfold hi2 at h; rw [if_neg h2] at h; exact h) (ai (show a.2 ≠ 0 from h2) tt0))
theorem TP (a : F2) (h : ¬ hi2 a) : Gives prog 105 [.t (.ag (m2 a))] (.v (.bool false)) := by
 by_cases h2 : a.2 = 0
 ·exact pX (P := prog) (env := [sR, wJ]) ⟨rC, tV, tt0⟩ func105 0 (oN [] [(4, 0), (7, 1)]) (by kernel_rfl) (ai (show ¬ hiP a.1 from by unfold hi2 at h; rw [if_pos h2] at h; exact h) (ai (show a.2 = 0 from h2) tt0))
 ·exact pX (P := prog) (env := [sR, wJ]) ⟨rC, tV, tt0⟩ func105 0 (oN [] [(4, 1), (7, 1)]) (by kernel_rfl) (ai (show ¬ hiP a.2 from by unfold hi2 at h; rw [if_neg h2] at h; exact h) (ai (show a.2 ≠ 0 from h2) tt0))
def A9 : Entry := ql 105 uI.x (fun a => [(some (hi2 a), .v (.bool true)), (some (¬ hi2 a), .v (.bool false))])
theorem yE : A9.OK prog := qb (fun args w => Go.Proofs.enters_of (P := prog) func105 (by kernel_rfl) rfl args w) (fun a c r hm hc => by
 simp only [List.mem_cons, pi0, List.not_mem_nil, or_false] at hm
 rcases hm with ⟨rfl, rfl⟩ | ⟨rfl, rfl⟩
 ·exact Vl a hc
 ·exact TP a hc)
theorem Kt {a b : AV} (v : AV) (h : a.val? = b.val?) : (AV.tp [a, v]).val? = (AV.tp [b, v]).val? := by simp only [AV.val?, AV.vals?, h]
theorem WO {f : Nat} {l : List XV} (x : Fin Pp) (h : Gives prog f l (.tp [.ag [.m x, .c (.int .u64 0), .c (.int .u64 0), .c (.int .u64 0), .c (.int .u64 0), .c (.int .u64 0), .c (.int .u64 0)], .v (.bool true)])) : Gives prog f l (.tp [.ag (m2 (x, 0)), .v (.bool true)]) := h.same (Kt _ (rK rfl rfl (show flat ([.m x] ++ [.m (0 : Fin Pp)]) = flat ([.m x] ++ [.c (.int .u64 0), .c (.int .u64 0), .c (.int .u64 0), .c (.int .u64 0), .c (.int .u64 0), .c (.int .u64 0)]) by rw [qm, qm, zC])))
theorem Yg {f : Nat} {l : List XV} (x : Fin Pp) (h : Gives prog f l (.tp [.ag [.c (.int .u64 0), .c (.int .u64 0), .c (.int .u64 0), .c (.int .u64 0), .c (.int .u64 0), .c (.int .u64 0), .m x], .v (.bool true)])) : Gives prog f l (.tp [.ag (m2 (0, x)), .v (.bool true)]) := h.same (Kt _ (rK rfl rfl (show flat ([.m (0 : Fin Pp)] ++ [.m x]) = flat ([.c (.int .u64 0), .c (.int .u64 0), .c (.int .u64 0), .c (.int .u64 0), .c (.int .u64 0), .c (.int .u64 0)] ++ [.m x]) by rw [qm, qm, zC])))
def EP : Entry := ql 124 ww.x (fun a => [(none, .ag [.m (invE a)])])
theorem xu : EP.OK prog := qb (fun args w => Go.Proofs.enters_of (P := prog) func124 (by kernel_rfl) rfl args w) (fun a => only (Rf a))
theorem Tc (a : F2) (h2 : a.2 = 0) (hs : sqP a.1) : Gives prog 104 [.t (.ag (m2 a))] (.tp [.ag [.m (lowP (rtP a.1)), .c (.int .u64 0), .c (.int .u64 0), .c (.int .u64 0), .c (.int .u64 0), .c (.int .u64 0), .c (.int .u64 0)], .v (.bool true)]) := pX (P := prog) (env := [sR, ye, vI, AO, tO, EP, rA, sa, qE]) ⟨rC, uW, sF, wq, qK, xu, qx, qT, qp, tt0⟩ func104 0 (oN [] [(5, 0), (8, 0)]) (by kernel_rfl) (ai (show sqP a.1 from hs) (ai (show a.2 = 0 from h2) tt0))
theorem Vd (a : F2) (h2 : a.2 = 0) (hs : ¬ sqP a.1) : Gives prog 104 [.t (.ag (m2 a))] (.tp [.ag [.c (.int .u64 0), .c (.int .u64 0), .c (.int .u64 0), .c (.int .u64 0), .c (.int .u64 0), .c (.int .u64 0), .m (lowP (rtP (-a.1)))], .v (.bool true)]) := pX (P := prog) (env := [sR, ye, vI, AO, tO, EP, rA, sa, qE]) ⟨rC, uW, sF, wq, qK, xu, qx, qT, qp, tt0⟩ func104 0 (oN [] [(5, 0), (8, 1), (19, 0)]) (by kernel_rfl) (ai (show sqP (-a.1) from Eb hs) (ai (show ¬ sqP a.1 from hs) (ai (show a.2 = 0 from h2) tt0)))
theorem Vn (a : F2) (h2 : a.2 ≠ 0) (h : sq2 a) (hs : sqP (tOne a)) : Gives prog 104 [.t (.ag (m2 a))] (.tp [.ag (m2 (z9 a (tOne a))), .v (.bool true)]) := pX (P := prog) (env := [sR, ye, vI, AO, tO, EP, rA, sa, qE]) ⟨rC, uW, sF, wq, qK, xu, qx, qT, qp, tt0⟩ func104 0 (oN [] [(5, 1), (8, 0), (27, 0)]) (by kernel_rfl) (ai (show sqP (tOne a) from hs) (ai (show sqP (norm2 a) from h) (ai (show a.2 ≠ 0 from h2) tt0)))
theorem S4 (a : F2) (h2 : a.2 ≠ 0) (h : sq2 a) (hs : ¬ sqP (tOne a)) : Gives prog 104 [.t (.ag (m2 a))] (.tp [.ag (m2 (z9 a (tTwo a))), .v (.bool true)]) := pX (P := prog) (env := [sR, ye, vI, AO, tO, EP, rA, sa, qE]) ⟨rC, uW, sF, wq, qK, xu, qx, qT, qp, tt0⟩ func104 0 (oN [] [(5, 1), (8, 0), (27, 1), (42, 0)]) (by kernel_rfl) (ai (show sqP (tTwo a) from HS h h2 hs) (ai (show ¬ sqP (tOne a) from hs) (ai (show sqP (norm2 a) from h) (ai (show a.2 ≠ 0 from h2) tt0))))
theorem NB (a : F2) (h : sq2 a) : Gives prog 104 [.t (.ag (m2 a))] (.tp [.ag (m2 (tM a)), .v (.bool true)]) := by
 by_cases h2 : a.2 = 0
 ·by_cases hs : sqP a.1
  ·rw [show tM a = (lowP (rtP a.1), 0) by unfold tM; rw [if_pos h2, if_pos hs]]
   exact WO _ (Tc a h2 hs)
  ·rw [show tM a = (0, lowP (rtP (-a.1))) by unfold tM; rw [if_pos h2, if_neg hs]]
   exact Yg _ (Vd a h2 hs)
 ·by_cases hs : sqP (tOne a)
  ·rw [show tM a = z9 a (tOne a) by unfold tM; rw [if_neg h2, if_pos hs]]
   exact Vn a h2 h hs
  ·rw [show tM a = z9 a (tTwo a) by unfold tM; rw [if_neg h2, if_neg hs]]
   exact S4 a h2 h hs
abbrev VL : AV := .tp [.ag (List.replicate 12 (.c (.int .u64 0))), .v (.bool false)]
theorem OH (a : F2) (h : ¬ sq2 a) : Gives prog 104 [.t (.ag (m2 a))] VL := by
 have h2 : a.2 ≠ 0 := fun e => h (G8 e)
 exact pX (P := prog) (env := [sR, ye, vI, AO, tO, EP, rA, sa, qE]) ⟨rC, uW, sF, wq, qK, xu, qx, qT, qp, tt0⟩ func104 0 (oN [] [(5, 1), (8, 1)]) (by kernel_rfl) (ai (show ¬ sqP (norm2 a) from h) (ai (show a.2 ≠ 0 from h2) tt0))
def GD : Entry := ql 104 uI.x (fun a => [(some (sq2 a), .tp [.ag (m2 (tM a)), .v (.bool true)]), (some (¬ sq2 a), .tp [.ag (List.replicate 12 (.c (.int .u64 0))), .v (.bool false)])])
theorem AR : GD.OK prog := qb (fun args w => Go.Proofs.enters_of (P := prog) func104 (by kernel_rfl) rfl args w) (fun a c r hm hc => by
 simp only [List.mem_cons, pi0, List.not_mem_nil, or_false] at hm
 rcases hm with ⟨rfl, rfl⟩ | ⟨rfl, rfl⟩
 ·exact NB a hc
 ·exact OH a hc)
theorem JM (a : F2) (h : sq2 a) : Gives prog 73 [.t (.ag (m2 a))] (.tp [.ag (m2 (rt2 a)), .v (.bool true)]) := by
 by_cases hh : hi2 (tM a)
 ·rw [show rt2 a = sj (tM a) from if_pos hh]; exact pX (P := prog) (env := [GD, A9, Em]) ⟨AR, yE, zW, tt0⟩ func73 0 (oN [] [(4, 0), (14, 0)]) (by kernel_rfl) (ai (show hi2 (tM a) from hh) (ai (show sq2 a from h) tt0))
 ·rw [show rt2 a = tM a from if_neg hh]; exact pX (P := prog) (env := [GD, A9, Em]) ⟨AR, yE, zW, tt0⟩ func73 0 (oN [] [(4, 0), (14, 1)]) (by kernel_rfl) (ai (show ¬ hi2 (tM a) from hh) (ai (show sq2 a from h) tt0))
theorem MJ (a : F2) (h : ¬ sq2 a) : Gives prog 73 [.t (.ag (m2 a))] VL := pX (P := prog) (env := [GD, A9, Em]) ⟨AR, yE, zW, tt0⟩ func73 0 (oN [] [(4, 1)]) (by kernel_rfl) (ai (show ¬ sq2 a from h) tt0)
def JW : Entry := ql 73 uI.x (fun a => [(some (sq2 a), .tp [.ag (m2 (rt2 a)), .v (.bool true)]), (some (¬ sq2 a), .tp [.ag (List.replicate 12 (.c (.int .u64 0))), .v (.bool false)])])
theorem NI : JW.OK prog := qb (fun args w => Go.Proofs.enters_of (P := prog) func73 (by kernel_rfl) rfl args w) (fun a c r hm hc => by
 simp only [List.mem_cons, pi0, List.not_mem_nil, or_false] at hm
 rcases hm with ⟨rfl, rfl⟩ | ⟨rfl, rfl⟩
 ·exact JM a hc
 ·exact MJ a hc)
end Go.Proofs.YtokjhbmmdmeafaaGreat
