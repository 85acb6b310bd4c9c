/- Pruned: Hc. -/
import Derived.Test.YtokjhbmmdmeafaaGreatQZhCiP
import Derived.Test.YtokjhbmmdmeafaaGreatQZhCxP
import Derived.Test.YtokjhbmmdmeafaaGreatQHa
import Derived.Test.YtokjhbmmdmeafaaGreatQE2
set_option linter.unusedSimpArgs false
set_option linter.unusedVariables false
namespace Go.Proofs.YtokjhbmmdmeafaaGreat
open Go.Ev Go.RowKit
open Tryz
theorem aaL {P : Program} {f : FuncId} {x x' : XV} {r : AV} (h : Gives P f [x] r) (e : ∀ w v, XRep w x' v -> XRep w x v) : Gives P f [x'] r := by
 obtain ⟨v, h1, h2⟩ := h
 refine ⟨v, h1, fun w vs hx => ?_⟩
 match vs, hx with
 | [y], hx => exact h2 w [y] ⟨e _ _ hx.1, tt0⟩
theorem W7 {P : Program} {f : FuncId} {x x' y y' : XV} {r : AV} (h : Gives P f [x, y] r) (e : ∀ w v, XRep w x' v -> XRep w x v) (e' : ∀ w v, XRep w y' v -> XRep w y v) : Gives P f [x', y'] r := by
 obtain ⟨v, h1, h2⟩ := h
 refine ⟨v, h1, fun w vs hx => ?_⟩
 match vs, hx with
 | [p, q], hx => exact h2 w [p, q] ⟨e _ _ hx.1, e' _ _ hx.2.1, tt0⟩
theorem YG : 39402006196394479212279040100143613805079739270465446667948293404245721771497210611414266254884915640806627990306816 * 3231460744492646417066832100176244795738767926513225105051837195607029917124509527734802654356338138714468589979680 % 4002409555221667393417789825735904156556882819939007885332058136124031650490837864442687629129015664037894272559787 = 1 % 4002409555221667393417789825735904156556882819939007885332058136124031650490837864442687629129015664037894272559787 := by decide
theorem zx (x : Fin Pp) : toM x < 4002409555221667393417789825735904156556882819939007885332058136124031650490837864442687629129015664037894272559787 := Nat.mod_lt _ (by decide)
theorem Tt (x y : Fin Pp) : toM (x + y) = (toM x + toM y) % 4002409555221667393417789825735904156556882819939007885332058136124031650490837864442687629129015664037894272559787 := by
 unfold toM
 rw [Fin.val_add]
 exact (R6 (m := 4002409555221667393417789825735904156556882819939007885332058136124031650490837864442687629129015664037894272559787) (R := 39402006196394479212279040100143613805079739270465446667948293404245721771497210611414266254884915640806627990306816) x.val y.val).symm
theorem Vg (x y : Fin Pp) : toM (x - y) = (toM x + (4002409555221667393417789825735904156556882819939007885332058136124031650490837864442687629129015664037894272559787 - toM y)) % 4002409555221667393417789825735904156556882819939007885332058136124031650490837864442687629129015664037894272559787 := by
 unfold toM
 rw [Fin.sub_def]
 exact (PK (m := 4002409555221667393417789825735904156556882819939007885332058136124031650490837864442687629129015664037894272559787) (R := 39402006196394479212279040100143613805079739270465446667948293404245721771497210611414266254884915640806627990306816) (by decide) y.isLt).symm
theorem TU (x y : Fin Pp) {v : Nat} (hv : v < 4002409555221667393417789825735904156556882819939007885332058136124031650490837864442687629129015664037894272559787) (h : (v * 39402006196394479212279040100143613805079739270465446667948293404245721771497210611414266254884915640806627990306816) % 4002409555221667393417789825735904156556882819939007885332058136124031650490837864442687629129015664037894272559787 = (toM x * toM y) % 4002409555221667393417789825735904156556882819939007885332058136124031650490837864442687629129015664037894272559787) : v = toM (x * y) := by
 have := N7 (m := 4002409555221667393417789825735904156556882819939007885332058136124031650490837864442687629129015664037894272559787) (R := 39402006196394479212279040100143613805079739270465446667948293404245721771497210611414266254884915640806627990306816) (x := x.val) (y := y.val) YG hv h
 rw [this]
 unfold toM
 rw [Fin.val_mul]
 rfl
theorem Zj (x y : Fin Pp) : Gives prog 62 [.t (.ag [.m x]), .t (.ag [.m y])] (.ag [.m (x + y)]) := by
 have h := W7 (x' := .t (.ag [.m x])) (y' := .t (.ag [.m y])) (YP (toM x) (toM y) (zx x) (zx y)) (fun _ _ h => h) (fun _ _ h => h)
 refine h.same ?_
 exact rK rfl rfl (by simp only [flat, Ch.cells, Tt])
theorem YI (x y : Fin Pp) : Gives prog 102 [.t (.ag [.m x]), .t (.ag [.m y])] (.ag [.m (x - y)]) := by
 have h := W7 (x' := .t (.ag [.m x])) (y' := .t (.ag [.m y])) (TI (toM x) (toM y) (zx x) (zx y)) (fun _ _ h => h) (fun _ _ h => h)
 refine h.same ?_
 exact rK rfl rfl (by simp only [flat, Ch.cells, Vg])
theorem XF (x y : Fin Pp) : Gives prog 61 [.t (.ag [.m x]), .t (.ag [.m y])] (.ag [.m (x * y)]) := by
 obtain ⟨v, h1, h2, h3⟩ := UB (toM x) (toM y) (Nat.lt_trans (zx x) (by decide)) (Nat.le_of_lt (zx y))
 have e := TU x y h1 h2
 have h := W7 (x' := .t (.ag [.m x])) (y' := .t (.ag [.m y])) h3 (fun _ _ h => h) (fun _ _ h => h)
 refine h.same ?_
 exact rK rfl rfl (by simp only [flat, Ch.cells, e])
theorem inP (a : Nat) (ha : a < 39402006196394479212279040100143613805079739270465446667948293404245721771497210611414266254884915640806627990306816) : Gives prog 60 [.t (.ag [.n 6 a])] (.ag [.m (ofP a)]) := by
 obtain ⟨v, h1, h2, h3⟩ := adJ a ha
 have e : v = toM (ofP a) := Lm (m := 4002409555221667393417789825735904156556882819939007885332058136124031650490837864442687629129015664037894272559787) (R := 39402006196394479212279040100143613805079739270465446667948293404245721771497210611414266254884915640806627990306816) YG h1 h2
 refine h3.same ?_
 exact rK rfl rfl (by simp only [flat, Ch.cells, e])
theorem ad4 (x : Fin Pp) : Gives prog 66 [.t (.ag [.m x])] (.ag [.q x]) := by
 obtain ⟨v, h1, h2, h3⟩ := acg (toM x) (Nat.lt_trans (zx x) (by decide))
 have e : v = x.val := Hr (m := 4002409555221667393417789825735904156556882819939007885332058136124031650490837864442687629129015664037894272559787) (R := 39402006196394479212279040100143613805079739270465446667948293404245721771497210611414266254884915640806627990306816) YG x.isLt h1 h2
 have h := aaL (x' := .t (.ag [.m x])) h3 (fun _ _ h => h)
 refine h.same ?_
 exact rK rfl rfl (by simp only [flat, Ch.cells, e])
def rA : Entry := sW 62 ww.x ww.x (fun x y => [(none, .ag [.m (x + y)])])
theorem qx : rA.OK prog := q9 (fun args w => Go.Proofs.enters_of (P := prog) func62 (by kernel_rfl) rfl args w) (fun x y => only (Zj x y))
def sa : Entry := sW 102 ww.x ww.x (fun x y => [(none, .ag [.m (x - y)])])
theorem qT : sa.OK prog := q9 (fun args w => Go.Proofs.enters_of (P := prog) func102 (by kernel_rfl) rfl args w) (fun x y => only (YI x y))
def qE : Entry := sW 61 ww.x ww.x (fun x y => [(none, .ag [.m (x * y)])])
theorem qp : qE.OK prog := q9 (fun args w => Go.Proofs.enters_of (P := prog) func61 (by kernel_rfl) rfl args w) (fun x y => only (XF x y))
def Co : Entry := ql 60 vF.x (fun a => [(some (a < 39402006196394479212279040100143613805079739270465446667948293404245721771497210611414266254884915640806627990306816), .ag [.m (ofP a)])])
theorem uP : Co.OK prog := qb (fun args w => Go.Proofs.enters_of (P := prog) func60 (by kernel_rfl) rfl args w) (fun u c r hm hc => by
 simp only [List.mem_singleton, pi0] at hm
 obtain ⟨rfl, rfl⟩ := hm
 exact inP u hc)
def vc : Entry := ql 66 ww.x (fun x => [(none, .ag [.q x])])
theorem sc : vc.OK prog := qb (fun args w => Go.Proofs.enters_of (P := prog) func66 (by kernel_rfl) rfl args w) (fun x => only (ad4 x))
theorem adp (x : Fin Pp) : Gives prog 65 [.t (.ag [.m x])] (.ag [.m (-x)]) :=
 (pX (P := prog) (env := [sa]) ⟨qT, tt0⟩ func65 0 o0 (r := .ag [.m (0 - x)]) (by kernel_rfl) tt0).same (by rw [show -x = 0 - x from by grind])
def vI : Entry := ql 65 ww.x (fun x => [(none, .ag [.m (-x)])])
theorem sF : vI.OK prog := qb (fun args w => Go.Proofs.enters_of (P := prog) func65 (by kernel_rfl) rfl args w) (fun x => only (adp x))
end Go.Proofs.YtokjhbmmdmeafaaGreat
set_option linter.unusedSimpArgs false
set_option linter.unusedVariables false
namespace Go.Proofs.YtokjhbmmdmeafaaGreat
open Go.Ev Go.RowKit
open Tryz
structure minusPY (a b : Nat) where
 i : Nat
 β : Nat
 o : Nat
 hi : i <= 6
 inv : acd a b i β o
structure plusPY (a b : Nat) where
 i : Nat
 β : Nat
 o : Nat
 hi : i <= 6
 inv : Ze a b i β o
end Go.Proofs.YtokjhbmmdmeafaaGreat
set_option linter.unusedSimpArgs false
set_option linter.unusedVariables false
namespace Go.Proofs.YtokjhbmmdmeafaaGreat
open Go.Ev Go.RowKit
open Tryz
theorem adH (x : Fin Pp) : Gives prog 60 [.t (.ag [.q x])] (.ag [.m x]) := by
 have h := aaL (x' := .t (.ag [.q x])) (inP x.val (Nat.lt_trans x.isLt (by decide))) (fun _ _ h => h)
 rw [r9] at h
 exact h
def Br : Entry := xE 60 LL.x vF.x (fun x => [(none, .ag [.m x])]) (fun a => [(some (smP a), .ag [.m (ofP a)])])
theorem wk : Br.OK prog := xr (qb (fun args w => Go.Proofs.enters_of (P := prog) func60 (by kernel_rfl) rfl args w) (fun x => only (adH x))) (qb (fun args w => Go.Proofs.enters_of (P := prog) func60 (by kernel_rfl) rfl args w) (fun a => sd (fun h => inP a h)))
end Go.Proofs.YtokjhbmmdmeafaaGreat
set_option linter.unusedSimpArgs false
set_option linter.unusedVariables false
namespace Go.Proofs.YtokjhbmmdmeafaaGreat
open Go.Ev Go.RowKit
open Tryz
def xp : Entry := ql 126 Vz (fun a => [(some (DG a), .ag [.q (abq a)])])
theorem vR : xp.OK prog := qb (fun args w => Go.Proofs.enters_of (P := prog) func126 (by kernel_rfl) rfl args w) (fun a => match a with
 | .inl a => sd (fun h => pX (P := prog) (env := [Br, vc]) ⟨wk, sc, tt0⟩ func126 1 o0 (by kernel_rfl) tt0)
 | .inr a => sd (fun h => pX (P := prog) (env := [Br, vc]) ⟨wk, sc, tt0⟩ func126 1 o0 (by kernel_rfl) (ai h tt0)))
end Go.Proofs.YtokjhbmmdmeafaaGreat
set_option linter.unusedSimpArgs false
set_option linter.unusedVariables false
namespace Go.Proofs.YtokjhbmmdmeafaaGreat
open Go.Ev Go.RowKit
open Tryz
def tO : Entry := ql 63 XPar.lim (fun h => [(none, .ag [.m (ofP (h % 18446744073709551616))])])
theorem qK : tO.OK prog := qb (fun args w => Go.Proofs.enters_of (P := prog) func63 (by kernel_rfl) rfl args w) (fun h => only (pX (P := prog) (env := [Br]) ⟨wk, tt0⟩ func63 0 o0 (by kernel_rfl) (ai (show smP (h % 18446744073709551616) from Nat.lt_trans (Nat.mod_lt _ (by decide)) (by decide)) tt0)))
end Go.Proofs.YtokjhbmmdmeafaaGreat
set_option linter.unusedSimpArgs false
set_option linter.unusedVariables false
namespace Go.Proofs.YtokjhbmmdmeafaaGreat
open Go.Ev Go.RowKit
open Tryz
theorem MA (a : Nat) (ha : a < 39402006196394479212279040100143613805079739270465446667948293404245721771497210611414266254884915640806627990306816) (h : a < 4002409555221667393417789825735904156556882819939007885332058136124031650490837864442687629129015664037894272559787) : Gives prog 118 [.t (.ag [.n 6 a])] (.v (.bool true)) :=
 pX (P := prog) (env := [xp]) ⟨vR, tt0⟩ func118 0 (oN [] [(5, 0)]) (by kernel_rfl) (ai (show flat [.q (ofP a)] = flat [.n 6 a] from by simp only [flat, Ch.cells]; rw [show (ofP a).val = a from Nat.mod_eq_of_lt h])  (ai (show DG (.inr a) from ha) tt0))
theorem NV (a : Nat) (ha : a < 39402006196394479212279040100143613805079739270465446667948293404245721771497210611414266254884915640806627990306816) (h : 4002409555221667393417789825735904156556882819939007885332058136124031650490837864442687629129015664037894272559787 <= a) : Gives prog 118 [.t (.ag [.n 6 a])] (.v (.bool false)) :=
 pX (P := prog) (env := [xp]) ⟨vR, tt0⟩ func118 0 (oN [] [(5, 1)]) (by kernel_rfl) (ai (show ¬ flat [.q (ofP a)] = flat [.n 6 a] from fun e => by
    have h1 := wm 6 (ofP a).val a (Nat.lt_trans (ofP a).isLt (by decide)) (by simpa using ha) (by simpa [flat, Ch.cells] using e)
    have h2 := (ofP a).isLt
    rw [h1] at h2
    exact absurd h2 (Nat.not_lt.2 h))  (ai (show DG (.inr a) from ha) tt0))
def CI : Entry := ql 118 vF.x (fun a => [(some (a < 39402006196394479212279040100143613805079739270465446667948293404245721771497210611414266254884915640806627990306816 /\ a < 4002409555221667393417789825735904156556882819939007885332058136124031650490837864442687629129015664037894272559787), .v (.bool true)), (some (a < 39402006196394479212279040100143613805079739270465446667948293404245721771497210611414266254884915640806627990306816 /\ 4002409555221667393417789825735904156556882819939007885332058136124031650490837864442687629129015664037894272559787 <= a), .v (.bool false))])
theorem G5 : CI.OK prog := qb (fun args w => Go.Proofs.enters_of (P := prog) func118 (by kernel_rfl) rfl args w) (fun a c r hm hc => by
 simp only [List.mem_cons, pi0, List.not_mem_nil, or_false] at hm
 rcases hm with ⟨rfl, rfl⟩ | ⟨rfl, rfl⟩
 ·exact MA a hc.1 hc.2
 ·exact NV a hc.1 hc.2)
end Go.Proofs.YtokjhbmmdmeafaaGreat
