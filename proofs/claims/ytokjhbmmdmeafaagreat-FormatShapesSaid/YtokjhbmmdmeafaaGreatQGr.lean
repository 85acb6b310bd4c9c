/- Pruned: Gr. -/
import Derived.Test.YtokjhbmmdmeafaaGreatQHa
import Derived.Test.YtokjhbmmdmeafaaGreatQHd
import Derived.Test.YtokjhbmmdmeafaaGreatQHc
import Derived.Test.YtokjhbmmdmeafaaGreatQE2
import Derived.Test.YtokjhbmmdmeafaaGreatQHe
import Derived.Test.YtokjhbmmdmeafaaGreatQHf
set_option linter.unusedSimpArgs false
set_option linter.unusedVariables false
namespace Go.Proofs.YtokjhbmmdmeafaaGreat
open Go.Ev Go.RowKit
open Tryz
theorem Rw (a : Fin Pp) (h : hiP a) : Gives prog 111 [.t (.ag [.m a])] (.v (.bool true)) := pq (P := prog) (env := [uk, tJ, Jh]) ⟨rt, q9, A6, tt0⟩ func111 0 (oN [] [(13, 2)]) (by kernel_rfl) (ai (show a.val < 39402006196394479212279040100143613805079739270465446667948293404245721771497210611414266254884915640806627990306816 /\ (-a).val < 39402006196394479212279040100143613805079739270465446667948293404245721771497210611414266254884915640806627990306816 /\ (-a).val < a.val from ⟨(Nat.lt_trans a.isLt (by decide)), (Nat.lt_trans (-a).isLt (by decide)), h⟩) tt0)
theorem Sv (a : Fin Pp) (h : a.val = (-a).val) : Gives prog 111 [.t (.ag [.m a])] (.v (.bool false)) := pq (P := prog) (env := [uk, tJ, Jh]) ⟨rt, q9, A6, tt0⟩ func111 0 (oN [] [(13, 1)]) (by kernel_rfl) (ai (show a.val < 39402006196394479212279040100143613805079739270465446667948293404245721771497210611414266254884915640806627990306816 /\ (-a).val < 39402006196394479212279040100143613805079739270465446667948293404245721771497210611414266254884915640806627990306816 /\ a.val = (-a).val from ⟨(Nat.lt_trans a.isLt (by decide)), (Nat.lt_trans (-a).isLt (by decide)), h⟩) tt0)
theorem Sd (a : Fin Pp) (h : a.val < (-a).val) : Gives prog 111 [.t (.ag [.m a])] (.v (.bool false)) := pq (P := prog) (env := [uk, tJ, Jh]) ⟨rt, q9, A6, tt0⟩ func111 0 (oN [] [(13, 0)]) (by kernel_rfl) (ai (show a.val < 39402006196394479212279040100143613805079739270465446667948293404245721771497210611414266254884915640806627990306816 /\ (-a).val < 39402006196394479212279040100143613805079739270465446667948293404245721771497210611414266254884915640806627990306816 /\ a.val < (-a).val from ⟨(Nat.lt_trans a.isLt (by decide)), (Nat.lt_trans (-a).isLt (by decide)), h⟩) tt0)
theorem PA (a : Fin Pp) (h : ¬ hiP a) : Gives prog 111 [.t (.ag [.m a])] (.v (.bool false)) := by
 rcases Nat.lt_or_eq_of_le (Nat.le_of_not_lt h) with h | h
 ·exact Sd a h
 ·exact Sv a h
def xP : Entry := pS 111 vh.x (fun a => [(some (hiP a), .v (.bool true)), (some (¬ hiP a), .v (.bool false))])
theorem ts : xP.OK prog := pE (fun args w => Go.Proofs.enters_of (P := prog) func111 (by kernel_rfl) rfl args w) (fun a c r hm hc => by
 simp only [List.mem_cons, pi0, List.not_mem_nil, or_false] at hm
 rcases hm with ⟨rfl, rfl⟩ | ⟨rfl, rfl⟩
 ·exact Rw a hc
 ·exact PA a hc)
theorem O4 (a : Fin Pp) : Gives prog 101 [.t (.ag [.m a])] (.ag [.m (lowP a)]) := by
 by_cases h : hiP a
 ·rw [show lowP a = -a from if_pos h]; exact pq (P := prog) (env := [xP, uk]) ⟨ts, rt, tt0⟩ func101 0 (oN [] [(3, 0)]) (by kernel_rfl) (ai (show hiP a from h) tt0)
 ·rw [show lowP a = a from if_neg h]; exact pq (P := prog) (env := [xP, uk]) ⟨ts, rt, tt0⟩ func101 0 (oN [] [(3, 1)]) (by kernel_rfl) (ai (show ¬ hiP a from h) tt0)
def NN : Entry := pS 101 vh.x (fun a => [(none, .ag [.m (lowP a)])])
theorem Ey : NN.OK prog := pE (fun args w => Go.Proofs.enters_of (P := prog) func101 (by kernel_rfl) rfl args w) (fun a => only (O4 a))
def Th := PLift.up (ai (show ofP (1 % 18446744073709551616) = 1 /\ Jz < 18446744073709551616 ^ 6 from ⟨by decide, by decide⟩) tt0)
theorem Kz (a : Fin Pp) (h : sqP a) : Gives prog 64 [.t (.ag [.m a])] (.tp [.ag [.m (lowP (rtP a))], .v (.bool true)]) := pq (P := prog) (env := [sE, Al, qa, NN]) ⟨qe, xG, pR, Ey, tt0⟩ func64 1 (oN [] [(165, 0)]) (by kernel_rfl) (ai (show flat [.m (rtP a * rtP a)] = flat [.m a] from by rw [show rtP a * rtP a = a from h]) Th.down)
abbrev TG : List Ch := [.c (.int .u64 0), .c (.int .u64 0), .c (.int .u64 0), .c (.int .u64 0), .c (.int .u64 0), .c (.int .u64 0)]
theorem L1 (a : Fin Pp) (h : ¬ sqP a) : Gives prog 64 [.t (.ag [.m a])] (.tp [.ag TG, .v (.bool false)]) := pq (P := prog) (env := [sE, Al, qa, NN]) ⟨qe, xG, pR, Ey, tt0⟩ func64 1 (oN [] [(165, 1)]) (by kernel_rfl) (ai (show ¬ flat [.m (rtP a * rtP a)] = flat [.m a] from fun e => h (vi e)) Th.down)
def we : Entry := pS 64 vh.x (fun a => [(some (sqP a), .tp [.ag [.m (lowP (rtP a))], .v (.bool true)]), (some (¬ sqP a), .tp [.ag [.c (.int .u64 0), .c (.int .u64 0), .c (.int .u64 0), .c (.int .u64 0), .c (.int .u64 0), .c (.int .u64 0)], .v (.bool false)])])
theorem tz : we.OK prog := pE (fun args w => Go.Proofs.enters_of (P := prog) func64 (by kernel_rfl) rfl args w) (fun a c r hm hc => by
 simp only [List.mem_cons, pi0, List.not_mem_nil, or_false] at hm
 rcases hm with ⟨rfl, rfl⟩ | ⟨rfl, rfl⟩
 ·exact Kz a hc
 ·exact L1 a hc)
end Go.Proofs.YtokjhbmmdmeafaaGreat
set_option linter.unusedSimpArgs false
set_option linter.unusedVariables false
namespace Go.Proofs.YtokjhbmmdmeafaaGreat
open Go.Ev Go.RowKit
open Tryz
theorem x6 : flat [.m (0 : Fin Pp)] = flat [.c (.int .u64 0), .c (.int .u64 0), .c (.int .u64 0), .c (.int .u64 0), .c (.int .u64 0), .c (.int .u64 0)] := by kernel_rfl
theorem MD (a : Fin Pp) (h : a = 0) : Gives prog 55 [.t (.ag [.m a])] (.v (.bool true)) := pq (P := prog) (env := []) trivial func55 0 (oN [] [(4, 0)]) (by kernel_rfl) (ai (show flat [.m a] = flat [.c (.int .u64 0), .c (.int .u64 0), .c (.int .u64 0), .c (.int .u64 0), .c (.int .u64 0), .c (.int .u64 0)] from by rw [h]; exact x6) tt0)
theorem PK (a : Fin Pp) (h : a ≠ 0) : Gives prog 55 [.t (.ag [.m a])] (.v (.bool false)) := pq (P := prog) (env := []) trivial func55 0 (oN [] [(4, 1)]) (by kernel_rfl) (ai (show ¬ flat [.m a] = flat TG from fun e => h (vi (e.trans x6.symm))) tt0)
def rS : Entry := pS 55 vh.x (fun a => [(some (a = 0), .v (.bool true)), (some (a ≠ 0), .v (.bool false))])
theorem qH : rS.OK prog := pE (fun args w => Go.Proofs.enters_of (P := prog) func55 (by kernel_rfl) rfl args w) (fun a c r hm hc => by
 simp only [List.mem_cons, pi0, List.not_mem_nil, or_false] at hm
 rcases hm with ⟨rfl, rfl⟩ | ⟨rfl, rfl⟩
 ·exact MD a hc
 ·exact PK a hc)
theorem R8 (a : F2) (h : hi2 a) : Gives prog 105 [.t (.ag (m2 a))] (.v (.bool true)) := by
 by_cases h2 : a.2 = 0
 ·exact pq (P := prog) (env := [rS, xP]) ⟨qH, ts, tt0⟩ func105 0 (oN [] [(4, 0), (7, 0)]) (by kernel_rfl) (ai (show hiP a.1 from by unfold hi2 at h; rw [if_pos h2] at h; exact h) (ai (show a.2 = 0 from h2) tt0))
 ·exact pq (P := prog) (env := [rS, xP]) ⟨qH, ts, tt0⟩ func105 0 (oN [] [(4, 1), (7, 0)]) (by kernel_rfl) (ai (show hiP a.2 from by unfold hi2 at h; rw [if_neg h2] at h; exact h) (ai (show a.2 ≠ 0 from h2) tt0))
theorem Sc (a : F2) (h : ¬ hi2 a) : Gives prog 105 [.t (.ag (m2 a))] (.v (.bool false)) := by
 by_cases h2 : a.2 = 0
 ·exact pq (P := prog) (env := [rS, xP]) ⟨qH, ts, tt0⟩ func105 0 (oN [] [(4, 0), (7, 1)]) (by kernel_rfl) (ai (show ¬ hiP a.1 from by unfold hi2 at h; rw [if_pos h2] at h; exact h) (ai (show a.2 = 0 from h2) tt0))
 ·exact pq (P := prog) (env := [rS, xP]) ⟨qH, ts, tt0⟩ func105 0 (oN [] [(4, 1), (7, 1)]) (by kernel_rfl) (ai (show ¬ hiP a.2 from by unfold hi2 at h; rw [if_neg h2] at h; exact h) (ai (show a.2 ≠ 0 from h2) tt0))
def Eb : Entry := pS 105 ti.x (fun a => [(some (hi2 a), .v (.bool true)), (some (¬ hi2 a), .v (.bool false))])
theorem yT : Eb.OK prog := pE (fun args w => Go.Proofs.enters_of (P := prog) func105 (by kernel_rfl) rfl args w) (fun a c r hm hc => by
 simp only [List.mem_cons, pi0, List.not_mem_nil, or_false] at hm
 rcases hm with ⟨rfl, rfl⟩ | ⟨rfl, rfl⟩
 ·exact R8 a hc
 ·exact Sc a hc)
theorem Iy {a b : AV} (v : AV) (h : a.val? = b.val?) : (AV.tp [a, v]).val? = (AV.tp [b, v]).val? := by simp only [AV.val?, AV.vals?, h]
theorem Wq {f : Nat} {l : List XV} (x : Fin Pp) (h : Gives prog f l (.tp [.ag [.m x, .c (.int .u64 0), .c (.int .u64 0), .c (.int .u64 0), .c (.int .u64 0), .c (.int .u64 0), .c (.int .u64 0)], .v (.bool true)])) : Gives prog f l (.tp [.ag (m2 (x, 0)), .v (.bool true)]) := h.same (Iy _ (qV rfl rfl (show flat ([.m x] ++ [.m (0 : Fin Pp)]) = flat ([.m x] ++ [.c (.int .u64 0), .c (.int .u64 0), .c (.int .u64 0), .c (.int .u64 0), .c (.int .u64 0), .c (.int .u64 0)]) by rw [pO, pO, x6])))
theorem Wb {f : Nat} {l : List XV} (x : Fin Pp) (h : Gives prog f l (.tp [.ag [.c (.int .u64 0), .c (.int .u64 0), .c (.int .u64 0), .c (.int .u64 0), .c (.int .u64 0), .c (.int .u64 0), .m x], .v (.bool true)])) : Gives prog f l (.tp [.ag (m2 (0, x)), .v (.bool true)]) := h.same (Iy _ (qV rfl rfl (show flat ([.m (0 : Fin Pp)] ++ [.m x]) = flat ([.c (.int .u64 0), .c (.int .u64 0), .c (.int .u64 0), .c (.int .u64 0), .c (.int .u64 0), .c (.int .u64 0)] ++ [.m x]) by rw [pO, pO, x6])))
def B2 : Entry := pS 124 vh.x (fun a => [(none, .ag [.m (invE a)])])
theorem v8 : B2.OK prog := pE (fun args w => Go.Proofs.enters_of (P := prog) func124 (by kernel_rfl) rfl args w) (fun a => only (L8 a))
theorem QR (a : F2) (h2 : a.2 = 0) (hs : sqP a.1) : Gives prog 104 [.t (.ag (m2 a))] (.tp [.ag [.m (lowP (rtP a.1)), .c (.int .u64 0), .c (.int .u64 0), .c (.int .u64 0), .c (.int .u64 0), .c (.int .u64 0), .c (.int .u64 0)], .v (.bool true)]) := pq (P := prog) (env := [rS, we, uk, yS, sE, B2, qE, qU, qa]) ⟨qH, tz, rt, uZ, qe, v8, pW, ql, pR, tt0⟩ func104 0 (oN [] [(5, 0), (8, 0)]) (by kernel_rfl) (ai (show sqP a.1 from hs) (ai (show a.2 = 0 from h2) tt0))
theorem RD (a : F2) (h2 : a.2 = 0) (hs : ¬ sqP a.1) : Gives prog 104 [.t (.ag (m2 a))] (.tp [.ag [.c (.int .u64 0), .c (.int .u64 0), .c (.int .u64 0), .c (.int .u64 0), .c (.int .u64 0), .c (.int .u64 0), .m (lowP (rtP (-a.1)))], .v (.bool true)]) := pq (P := prog) (env := [rS, we, uk, yS, sE, B2, qE, qU, qa]) ⟨qH, tz, rt, uZ, qe, v8, pW, ql, pR, tt0⟩ func104 0 (oN [] [(5, 0), (8, 1), (19, 0)]) (by kernel_rfl) (ai (show sqP (-a.1) from BW hs) (ai (show ¬ sqP a.1 from hs) (ai (show a.2 = 0 from h2) tt0)))
theorem Rd (a : F2) (h2 : a.2 ≠ 0) (h : sq2 a) (hs : sqP (tOne a)) : Gives prog 104 [.t (.ag (m2 a))] (.tp [.ag (m2 (yL a (tOne a))), .v (.bool true)]) := pq (P := prog) (env := [rS, we, uk, yS, sE, B2, qE, qU, qa]) ⟨qH, tz, rt, uZ, qe, v8, pW, ql, pR, tt0⟩ func104 0 (oN [] [(5, 1), (8, 0), (27, 0)]) (by kernel_rfl) (ai (show sqP (tOne a) from hs) (ai (show sqP (Aw a) from h) (ai (show a.2 ≠ 0 from h2) tt0)))
theorem RW (a : F2) (h2 : a.2 ≠ 0) (h : sq2 a) (hs : ¬ sqP (tOne a)) : Gives prog 104 [.t (.ag (m2 a))] (.tp [.ag (m2 (yL a (tTwo a))), .v (.bool true)]) := pq (P := prog) (env := [rS, we, uk, yS, sE, B2, qE, qU, qa]) ⟨qH, tz, rt, uZ, qe, v8, pW, ql, pR, tt0⟩ func104 0 (oN [] [(5, 1), (8, 0), (27, 1), (42, 0)]) (by kernel_rfl) (ai (show sqP (tTwo a) from EP h h2 hs) (ai (show ¬ sqP (tOne a) from hs) (ai (show sqP (Aw a) from h) (ai (show a.2 ≠ 0 from h2) tt0))))
theorem LB (a : F2) (h : sq2 a) : Gives prog 104 [.t (.ag (m2 a))] (.tp [.ag (m2 (sI a)), .v (.bool true)]) := by
 by_cases h2 : a.2 = 0
 ·by_cases hs : sqP a.1
  ·rw [show sI a = (lowP (rtP a.1), 0) by unfold sI; rw [if_pos h2, if_pos hs]]
   exact Wq _ (QR a h2 hs)
  ·rw [show sI a = (0, lowP (rtP (-a.1))) by unfold sI; rw [if_pos h2, if_neg hs]]
   exact Wb _ (RD a h2 hs)
 ·by_cases hs : sqP (tOne a)
  ·rw [show sI a = yL a (tOne a) by unfold sI; rw [if_neg h2, if_pos hs]]
   exact Rd a h2 h hs
  ·rw [show sI a = yL a (tTwo a) by unfold sI; rw [if_neg h2, if_neg hs]]
   exact RW a h2 h hs
abbrev Ty : AV := .tp [.ag (List.replicate 12 (.c (.int .u64 0))), .v (.bool false)]
theorem Pf (a : F2) (h : ¬ sq2 a) : Gives prog 104 [.t (.ag (m2 a))] Ty := by
 have h2 : a.2 ≠ 0 := fun e => h (Fb e)
 exact pq (P := prog) (env := [rS, we, uk, yS, sE, B2, qE, qU, qa]) ⟨qH, tz, rt, uZ, qe, v8, pW, ql, pR, tt0⟩ func104 0 (oN [] [(5, 1), (8, 1)]) (by kernel_rfl) (ai (show ¬ sqP (Aw a) from h) (ai (show a.2 ≠ 0 from h2) tt0))
def DM : Entry := pS 104 ti.x (fun a => [(some (sq2 a), .tp [.ag (m2 (sI a)), .v (.bool true)]), (some (¬ sq2 a), .tp [.ag (List.replicate 12 (.c (.int .u64 0))), .v (.bool false)])])
theorem y9 : DM.OK prog := pE (fun args w => Go.Proofs.enters_of (P := prog) func104 (by kernel_rfl) rfl args w) (fun a c r hm hc => by
 simp only [List.mem_cons, pi0, List.not_mem_nil, or_false] at hm
 rcases hm with ⟨rfl, rfl⟩ | ⟨rfl, rfl⟩
 ·exact LB a hc
 ·exact Pf a hc)
theorem H9 (a : F2) (h : sq2 a) : Gives prog 73 [.t (.ag (m2 a))] (.tp [.ag (m2 (rt2 a)), .v (.bool true)]) := by
 by_cases hh : hi2 (sI a)
 ·rw [show rt2 a = r9 (sI a) from if_pos hh]; exact pq (P := prog) (env := [DM, Eb, Cf]) ⟨y9, yT, yE, tt0⟩ func73 0 (oN [] [(4, 0), (14, 0)]) (by kernel_rfl) (ai (show hi2 (sI a) from hh) (ai (show sq2 a from h) tt0))
 ·rw [show rt2 a = sI a from if_neg hh]; exact pq (P := prog) (env := [DM, Eb, Cf]) ⟨y9, yT, yE, tt0⟩ func73 0 (oN [] [(4, 0), (14, 1)]) (by kernel_rfl) (ai (show ¬ hi2 (sI a) from hh) (ai (show sq2 a from h) tt0))
theorem Lm (a : F2) (h : ¬ sq2 a) : Gives prog 73 [.t (.ag (m2 a))] Ty := pq (P := prog) (env := [DM, Eb, Cf]) ⟨y9, yT, yE, tt0⟩ func73 0 (oN [] [(4, 1)]) (by kernel_rfl) (ai (show ¬ sq2 a from h) tt0)
def Ia : Entry := pS 73 ti.x (fun a => [(some (sq2 a), .tp [.ag (m2 (rt2 a)), .v (.bool true)]), (some (¬ sq2 a), .tp [.ag (List.replicate 12 (.c (.int .u64 0))), .v (.bool false)])])
theorem Ll : Ia.OK prog := pE (fun args w => Go.Proofs.enters_of (P := prog) func73 (by kernel_rfl) rfl args w) (fun a c r hm hc => by
 simp only [List.mem_cons, pi0, List.not_mem_nil, or_false] at hm
 rcases hm with ⟨rfl, rfl⟩ | ⟨rfl, rfl⟩
 ·exact H9 a hc
 ·exact Lm a hc)
end Go.Proofs.YtokjhbmmdmeafaaGreat
