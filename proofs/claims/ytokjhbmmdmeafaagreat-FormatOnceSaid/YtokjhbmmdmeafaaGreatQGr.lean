/- Pruned: Gr. -/
import Derived.Test.YtokjhbmmdmeafaaGreatQHa
import Derived.Test.YtokjhbmmdmeafaaGreatQHd
import Derived.Test.YtokjhbmmdmeafaaGreatQHc
import Derived.Test.YtokjhbmmdmeafaaGreatQE2
import Derived.Test.YtokjhbmmdmeafaaGreatQHe
import Derived.Test.YtokjhbmmdmeafaaGreatQHf
set_option linter.unusedSimpArgs false
set_option linter.unusedVariables false
namespace Go.Proofs.YtokjhbmmdmeafaaGreat
open Go.Ev Go.RowKit
open Tryz
theorem Wb (a : Fin Pp) (h : hiP a) : Gives prog 111 [.t (.ag [.m a])] (.v (.bool true)) := pI (P := prog) (env := [vn, uS, Ma]) ⟨sf, rS, Dg, tt0⟩ func111 0 (oN [] [(13, 2)]) (by kernel_rfl) (ai (show a.val < 39402006196394479212279040100143613805079739270465446667948293404245721771497210611414266254884915640806627990306816 /\ (-a).val < 39402006196394479212279040100143613805079739270465446667948293404245721771497210611414266254884915640806627990306816 /\ (-a).val < a.val from ⟨(Nat.lt_trans a.isLt (by decide)), (Nat.lt_trans (-a).isLt (by decide)), h⟩) tt0)
theorem WK (a : Fin Pp) (h : a.val = (-a).val) : Gives prog 111 [.t (.ag [.m a])] (.v (.bool false)) := pI (P := prog) (env := [vn, uS, Ma]) ⟨sf, rS, Dg, tt0⟩ func111 0 (oN [] [(13, 1)]) (by kernel_rfl) (ai (show a.val < 39402006196394479212279040100143613805079739270465446667948293404245721771497210611414266254884915640806627990306816 /\ (-a).val < 39402006196394479212279040100143613805079739270465446667948293404245721771497210611414266254884915640806627990306816 /\ a.val = (-a).val from ⟨(Nat.lt_trans a.isLt (by decide)), (Nat.lt_trans (-a).isLt (by decide)), h⟩) tt0)
theorem Uz (a : Fin Pp) (h : a.val < (-a).val) : Gives prog 111 [.t (.ag [.m a])] (.v (.bool false)) := pI (P := prog) (env := [vn, uS, Ma]) ⟨sf, rS, Dg, tt0⟩ func111 0 (oN [] [(13, 0)]) (by kernel_rfl) (ai (show a.val < 39402006196394479212279040100143613805079739270465446667948293404245721771497210611414266254884915640806627990306816 /\ (-a).val < 39402006196394479212279040100143613805079739270465446667948293404245721771497210611414266254884915640806627990306816 /\ a.val < (-a).val from ⟨(Nat.lt_trans a.isLt (by decide)), (Nat.lt_trans (-a).isLt (by decide)), h⟩) tt0)
theorem Sn (a : Fin Pp) (h : ¬ hiP a) : Gives prog 111 [.t (.ag [.m a])] (.v (.bool false)) := by
 rcases Nat.lt_or_eq_of_le (Nat.le_of_not_lt h) with h | h
 ·exact Uz a h
 ·exact WK a h
def wy : Entry := p7 111 we.x (fun a => [(some (hiP a), .v (.bool true)), (some (¬ hiP a), .v (.bool false))])
theorem tH : wy.OK prog := pQ (fun args w => Go.Proofs.enters_of (P := prog) func111 (by kernel_rfl) rfl args w) (fun a c r hm hc => by
 simp only [List.mem_cons, pi0, List.not_mem_nil, or_false] at hm
 rcases hm with ⟨rfl, rfl⟩ | ⟨rfl, rfl⟩
 ·exact Wb a hc
 ·exact Sn a hc)
theorem RR (a : Fin Pp) : Gives prog 101 [.t (.ag [.m a])] (.ag [.m (lowP a)]) := by
 by_cases h : hiP a
 ·rw [show lowP a = -a from if_pos h]; exact pI (P := prog) (env := [wy, vn]) ⟨tH, sf, tt0⟩ func101 0 (oN [] [(3, 0)]) (by kernel_rfl) (ai (show hiP a from h) tt0)
 ·rw [show lowP a = a from if_neg h]; exact pI (P := prog) (env := [wy, vn]) ⟨tH, sf, tt0⟩ func101 0 (oN [] [(3, 1)]) (by kernel_rfl) (ai (show ¬ hiP a from h) tt0)
def Tp : Entry := p7 101 we.x (fun a => [(none, .ag [.m (lowP a)])])
theorem HV : Tp.OK prog := pQ (fun args w => Go.Proofs.enters_of (P := prog) func101 (by kernel_rfl) rfl args w) (fun a => only (RR a))
def XM := PLift.up (ai (show ofP (1 % 18446744073709551616) = 1 /\ LD < 18446744073709551616 ^ 6 from ⟨by decide, by decide⟩) tt0)
theorem Of (a : Fin Pp) (h : sqP a) : Gives prog 64 [.t (.ag [.m a])] (.tp [.ag [.m (lowP (rtP a))], .v (.bool true)]) := pI (P := prog) (env := [tl, Cc, qt, Tp]) ⟨qz, zd, qb, HV, tt0⟩ func64 1 (oN [] [(165, 0)]) (by kernel_rfl) (ai (show flat [.m (rtP a * rtP a)] = flat [.m a] from by rw [show rtP a * rtP a = a from h]) XM.down)
abbrev XI : List Ch := [.c (.int .u64 0), .c (.int .u64 0), .c (.int .u64 0), .c (.int .u64 0), .c (.int .u64 0), .c (.int .u64 0)]
theorem O6 (a : Fin Pp) (h : ¬ sqP a) : Gives prog 64 [.t (.ag [.m a])] (.tp [.ag XI, .v (.bool false)]) := pI (P := prog) (env := [tl, Cc, qt, Tp]) ⟨qz, zd, qb, HV, tt0⟩ func64 1 (oN [] [(165, 1)]) (by kernel_rfl) (ai (show ¬ flat [.m (rtP a * rtP a)] = flat [.m a] from fun e => h (wJ e)) XM.down)
def xc : Entry := p7 64 we.x (fun a => [(some (sqP a), .tp [.ag [.m (lowP (rtP a))], .v (.bool true)]), (some (¬ sqP a), .tp [.ag [.c (.int .u64 0), .c (.int .u64 0), .c (.int .u64 0), .c (.int .u64 0), .c (.int .u64 0), .c (.int .u64 0)], .v (.bool false)])])
theorem uC : xc.OK prog := pQ (fun args w => Go.Proofs.enters_of (P := prog) func64 (by kernel_rfl) rfl args w) (fun a c r hm hc => by
 simp only [List.mem_cons, pi0, List.not_mem_nil, or_false] at hm
 rcases hm with ⟨rfl, rfl⟩ | ⟨rfl, rfl⟩
 ·exact Of a hc
 ·exact O6 a hc)
end Go.Proofs.YtokjhbmmdmeafaaGreat
set_option linter.unusedSimpArgs false
set_option linter.unusedVariables false
namespace Go.Proofs.YtokjhbmmdmeafaaGreat
open Go.Ev Go.RowKit
open Tryz
theorem zl : flat [.m (0 : Fin Pp)] = flat [.c (.int .u64 0), .c (.int .u64 0), .c (.int .u64 0), .c (.int .u64 0), .c (.int .u64 0), .c (.int .u64 0)] := by kernel_rfl
theorem Ry (a : Fin Pp) (h : a = 0) : Gives prog 55 [.t (.ag [.m a])] (.v (.bool true)) := pI (P := prog) (env := []) trivial func55 0 (oN [] [(4, 0)]) (by kernel_rfl) (ai (show flat [.m a] = flat [.c (.int .u64 0), .c (.int .u64 0), .c (.int .u64 0), .c (.int .u64 0), .c (.int .u64 0), .c (.int .u64 0)] from by rw [h]; exact zl) tt0)
theorem Py (a : Fin Pp) (h : a ≠ 0) : Gives prog 55 [.t (.ag [.m a])] (.v (.bool false)) := pI (P := prog) (env := []) trivial func55 0 (oN [] [(4, 1)]) (by kernel_rfl) (ai (show ¬ flat [.m a] = flat XI from fun e => h (wJ (e.trans zl.symm))) tt0)
def ss : Entry := p7 55 we.x (fun a => [(some (a = 0), .v (.bool true)), (some (a ≠ 0), .v (.bool false))])
theorem rk : ss.OK prog := pQ (fun args w => Go.Proofs.enters_of (P := prog) func55 (by kernel_rfl) rfl args w) (fun a c r hm hc => by
 simp only [List.mem_cons, pi0, List.not_mem_nil, or_false] at hm
 rcases hm with ⟨rfl, rfl⟩ | ⟨rfl, rfl⟩
 ·exact Ry a hc
 ·exact Py a hc)
theorem VP (a : F2) (h : hi2 a) : Gives prog 105 [.t (.ag (m2 a))] (.v (.bool true)) := by
 by_cases h2 : a.2 = 0
 ·exact pI (P := prog) (env := [ss, wy]) ⟨rk, tH, tt0⟩ func105 0 (oN [] [(4, 0), (7, 0)]) (by kernel_rfl) (ai (show hiP a.1 from by unfold hi2 at h; rw [if_pos h2] at h; exact h) (ai (show a.2 = 0 from h2) tt0))
 ·exact pI (P := prog) (env := [ss, wy]) ⟨rk, tH, tt0⟩ func105 0 (oN [] [(4, 1), (7, 0)]) (by kernel_rfl) (ai (show hiP a.2 from by unfold hi2 at h; rw [if_neg h2] at h; exact h) (ai (show a.2 ≠ 0 from h2) tt0))
theorem UE (a : F2) (h : ¬ hi2 a) : Gives prog 105 [.t (.ag (m2 a))] (.v (.bool false)) := by
 by_cases h2 : a.2 = 0
 ·exact pI (P := prog) (env := [ss, wy]) ⟨rk, tH, tt0⟩ func105 0 (oN [] [(4, 0), (7, 1)]) (by kernel_rfl) (ai (show ¬ hiP a.1 from by unfold hi2 at h; rw [if_pos h2] at h; exact h) (ai (show a.2 = 0 from h2) tt0))
 ·exact pI (P := prog) (env := [ss, wy]) ⟨rk, tH, tt0⟩ func105 0 (oN [] [(4, 1), (7, 1)]) (by kernel_rfl) (ai (show ¬ hiP a.2 from by unfold hi2 at h; rw [if_neg h2] at h; exact h) (ai (show a.2 ≠ 0 from h2) tt0))
def A0 : Entry := p7 105 uj.x (fun a => [(some (hi2 a), .v (.bool true)), (some (¬ hi2 a), .v (.bool false))])
theorem yu : A0.OK prog := pQ (fun args w => Go.Proofs.enters_of (P := prog) func105 (by kernel_rfl) rfl args w) (fun a c r hm hc => by
 simp only [List.mem_cons, pi0, List.not_mem_nil, or_false] at hm
 rcases hm with ⟨rfl, rfl⟩ | ⟨rfl, rfl⟩
 ·exact VP a hc
 ·exact UE a hc)
theorem LF {a b : AV} (v : AV) (h : a.val? = b.val?) : (AV.tp [a, v]).val? = (AV.tp [b, v]).val? := by simp only [AV.val?, AV.vals?, h]
theorem Z8 {f : Nat} {l : List XV} (x : Fin Pp) (h : Gives prog f l (.tp [.ag [.m x, .c (.int .u64 0), .c (.int .u64 0), .c (.int .u64 0), .c (.int .u64 0), .c (.int .u64 0), .c (.int .u64 0)], .v (.bool true)])) : Gives prog f l (.tp [.ag (m2 (x, 0)), .v (.bool true)]) := h.same (LF _ (ry rfl rfl (show flat ([.m x] ++ [.m (0 : Fin Pp)]) = flat ([.m x] ++ [.c (.int .u64 0), .c (.int .u64 0), .c (.int .u64 0), .c (.int .u64 0), .c (.int .u64 0), .c (.int .u64 0)]) by rw [p8, p8, zl])))
theorem ZT {f : Nat} {l : List XV} (x : Fin Pp) (h : Gives prog f l (.tp [.ag [.c (.int .u64 0), .c (.int .u64 0), .c (.int .u64 0), .c (.int .u64 0), .c (.int .u64 0), .c (.int .u64 0), .m x], .v (.bool true)])) : Gives prog f l (.tp [.ag (m2 (0, x)), .v (.bool true)]) := h.same (LF _ (ry rfl rfl (show flat ([.m (0 : Fin Pp)] ++ [.m x]) = flat ([.c (.int .u64 0), .c (.int .u64 0), .c (.int .u64 0), .c (.int .u64 0), .c (.int .u64 0), .c (.int .u64 0)] ++ [.m x]) by rw [p8, p8, zl])))
def D5 : Entry := p7 124 we.x (fun a => [(none, .ag [.m (invE a)])])
theorem xq : D5.OK prog := pQ (fun args w => Go.Proofs.enters_of (P := prog) func124 (by kernel_rfl) rfl args w) (fun a => only (Qi a))
theorem UP (a : F2) (h2 : a.2 = 0) (hs : sqP a.1) : Gives prog 104 [.t (.ag (m2 a))] (.tp [.ag [.m (lowP (rtP a.1)), .c (.int .u64 0), .c (.int .u64 0), .c (.int .u64 0), .c (.int .u64 0), .c (.int .u64 0), .c (.int .u64 0)], .v (.bool true)]) := pI (P := prog) (env := [ss, xc, vn, Bj, tl, D5, re, rL, qt]) ⟨rk, uC, sf, wh, qz, xq, qj, qH, qb, tt0⟩ func104 0 (oN [] [(5, 0), (8, 0)]) (by kernel_rfl) (ai (show sqP a.1 from hs) (ai (show a.2 = 0 from h2) tt0))
theorem Wl (a : F2) (h2 : a.2 = 0) (hs : ¬ sqP a.1) : Gives prog 104 [.t (.ag (m2 a))] (.tp [.ag [.c (.int .u64 0), .c (.int .u64 0), .c (.int .u64 0), .c (.int .u64 0), .c (.int .u64 0), .c (.int .u64 0), .m (lowP (rtP (-a.1)))], .v (.bool true)]) := pI (P := prog) (env := [ss, xc, vn, Bj, tl, D5, re, rL, qt]) ⟨rk, uC, sf, wh, qz, xq, qj, qH, qb, tt0⟩ func104 0 (oN [] [(5, 0), (8, 1), (19, 0)]) (by kernel_rfl) (ai (show sqP (-a.1) from DZ hs) (ai (show ¬ sqP a.1 from hs) (ai (show a.2 = 0 from h2) tt0)))
theorem US (a : F2) (h2 : a.2 ≠ 0) (h : sq2 a) (hs : sqP (tOne a)) : Gives prog 104 [.t (.ag (m2 a))] (.tp [.ag (m2 (zQ a (tOne a))), .v (.bool true)]) := pI (P := prog) (env := [ss, xc, vn, Bj, tl, D5, re, rL, qt]) ⟨rk, uC, sf, wh, qz, xq, qj, qH, qb, tt0⟩ func104 0 (oN [] [(5, 1), (8, 0), (27, 0)]) (by kernel_rfl) (ai (show sqP (tOne a) from hs) (ai (show sqP (tu a) from h) (ai (show a.2 ≠ 0 from h2) tt0)))
theorem VF (a : F2) (h2 : a.2 ≠ 0) (h : sq2 a) (hs : ¬ sqP (tOne a)) : Gives prog 104 [.t (.ag (m2 a))] (.tp [.ag (m2 (zQ a (tTwo a))), .v (.bool true)]) := pI (P := prog) (env := [ss, xc, vn, Bj, tl, D5, re, rL, qt]) ⟨rk, uC, sf, wh, qz, xq, qj, qH, qb, tt0⟩ func104 0 (oN [] [(5, 1), (8, 0), (27, 1), (42, 0)]) (by kernel_rfl) (ai (show sqP (tTwo a) from HE h h2 hs) (ai (show ¬ sqP (tOne a) from hs) (ai (show sqP (tu a) from h) (ai (show a.2 ≠ 0 from h2) tt0))))
theorem Oz (a : F2) (h : sq2 a) : Gives prog 104 [.t (.ag (m2 a))] (.tp [.ag (m2 (tz a)), .v (.bool true)]) := by
 by_cases h2 : a.2 = 0
 ·by_cases hs : sqP a.1
  ·rw [show tz a = (lowP (rtP a.1), 0) by unfold tz; rw [if_pos h2, if_pos hs]]
   exact Z8 _ (UP a h2 hs)
  ·rw [show tz a = (0, lowP (rtP (-a.1))) by unfold tz; rw [if_pos h2, if_neg hs]]
   exact ZT _ (Wl a h2 hs)
 ·by_cases hs : sqP (tOne a)
  ·rw [show tz a = zQ a (tOne a) by unfold tz; rw [if_neg h2, if_pos hs]]
   exact US a h2 h hs
  ·rw [show tz a = zQ a (tTwo a) by unfold tz; rw [if_neg h2, if_neg hs]]
   exact VF a h2 h hs
abbrev W0 : AV := .tp [.ag (List.replicate 12 (.c (.int .u64 0))), .v (.bool false)]
theorem Sw (a : F2) (h : ¬ sq2 a) : Gives prog 104 [.t (.ag (m2 a))] W0 := by
 have h2 : a.2 ≠ 0 := fun e => h (Ig e)
 exact pI (P := prog) (env := [ss, xc, vn, Bj, tl, D5, re, rL, qt]) ⟨rk, uC, sf, wh, qz, xq, qj, qH, qb, tt0⟩ func104 0 (oN [] [(5, 1), (8, 1)]) (by kernel_rfl) (ai (show ¬ sqP (tu a) from h) (ai (show a.2 ≠ 0 from h2) tt0))
def Gv : Entry := p7 104 uj.x (fun a => [(some (sq2 a), .tp [.ag (m2 (tz a)), .v (.bool true)]), (some (¬ sq2 a), .tp [.ag (List.replicate 12 (.c (.int .u64 0))), .v (.bool false)])])
theorem Bc : Gv.OK prog := pQ (fun args w => Go.Proofs.enters_of (P := prog) func104 (by kernel_rfl) rfl args w) (fun a c r hm hc => by
 simp only [List.mem_cons, pi0, List.not_mem_nil, or_false] at hm
 rcases hm with ⟨rfl, rfl⟩ | ⟨rfl, rfl⟩
 ·exact Oz a hc
 ·exact Sw a hc)
theorem Jd (a : F2) (h : sq2 a) : Gives prog 73 [.t (.ag (m2 a))] (.tp [.ag (m2 (rt2 a)), .v (.bool true)]) := by
 by_cases hh : hi2 (tz a)
 ·rw [show rt2 a = r6 (tz a) from if_pos hh]; exact pI (P := prog) (env := [Gv, A0, EB]) ⟨Bc, yu, zW, tt0⟩ func73 0 (oN [] [(4, 0), (14, 0)]) (by kernel_rfl) (ai (show hi2 (tz a) from hh) (ai (show sq2 a from h) tt0))
 ·rw [show rt2 a = tz a from if_neg hh]; exact pI (P := prog) (env := [Gv, A0, EB]) ⟨Bc, yu, zW, tt0⟩ func73 0 (oN [] [(4, 0), (14, 1)]) (by kernel_rfl) (ai (show ¬ hi2 (tz a) from hh) (ai (show sq2 a from h) tt0))
theorem OF (a : F2) (h : ¬ sq2 a) : Gives prog 73 [.t (.ag (m2 a))] W0 := pI (P := prog) (env := [Gv, A0, EB]) ⟨Bc, yu, zW, tt0⟩ func73 0 (oN [] [(4, 1)]) (by kernel_rfl) (ai (show ¬ sq2 a from h) tt0)
def K3 : Entry := p7 73 uj.x (fun a => [(some (sq2 a), .tp [.ag (m2 (rt2 a)), .v (.bool true)]), (some (¬ sq2 a), .tp [.ag (List.replicate 12 (.c (.int .u64 0))), .v (.bool false)])])
theorem M2 : K3.OK prog := pQ (fun args w => Go.Proofs.enters_of (P := prog) func73 (by kernel_rfl) rfl args w) (fun a c r hm hc => by
 simp only [List.mem_cons, pi0, List.not_mem_nil, or_false] at hm
 rcases hm with ⟨rfl, rfl⟩ | ⟨rfl, rfl⟩
 ·exact Jd a hc
 ·exact OF a hc)
end Go.Proofs.YtokjhbmmdmeafaaGreat
