/- Pruned: Hc. -/
import Derived.Test.YtfbkefgoblcmpaaGreatQZhCiP
import Derived.Test.YtfbkefgoblcmpaaGreatQZhCxP
import Derived.Test.YtfbkefgoblcmpaaGreatQHa
import Derived.Test.YtfbkefgoblcmpaaGreatQE2
set_option linter.unusedSimpArgs false
set_option linter.unusedVariables false
namespace Go.Proofs.YtfbkefgoblcmpaaGreat
open Go.Ev Go.RowKit
open Tryz
theorem WD {P : Program} {f : FuncId} {x x' : XV} {r : AV} (h : Gives P f [x] r) (e : ∀ w v, XRep w x' v -> XRep w x v) : Gives P f [x'] r := by
 obtain ⟨v, h1, h2⟩ := h
 refine ⟨v, h1, fun w vs hx => ?_⟩
 match vs, hx with
 | [y], hx => exact h2 w [y] ⟨e _ _ hx.1, tt0⟩
theorem SN {P : Program} {f : FuncId} {x x' y y' : XV} {r : AV} (h : Gives P f [x, y] r) (e : ∀ w v, XRep w x' v -> XRep w x v) (e' : ∀ w v, XRep w y' v -> XRep w y v) : Gives P f [x', y'] r := by
 obtain ⟨v, h1, h2⟩ := h
 refine ⟨v, h1, fun w vs hx => ?_⟩
 match vs, hx with
 | [p, q], hx => exact h2 w [p, q] ⟨e _ _ hx.1, e' _ _ hx.2.1, tt0⟩
theorem UP : 39402006196394479212279040100143613805079739270465446667948293404245721771497210611414266254884915640806627990306816 * 3231460744492646417066832100176244795738767926513225105051837195607029917124509527734802654356338138714468589979680 % 4002409555221667393417789825735904156556882819939007885332058136124031650490837864442687629129015664037894272559787 = 1 % 4002409555221667393417789825735904156556882819939007885332058136124031650490837864442687629129015664037894272559787 := by decide
theorem zf (x : Fin Pp) : toM x < 4002409555221667393417789825735904156556882819939007885332058136124031650490837864442687629129015664037894272559787 := Nat.mod_lt _ (by decide)
theorem QW (x y : Fin Pp) : toM (x + y) = (toM x + toM y) % 4002409555221667393417789825735904156556882819939007885332058136124031650490837864442687629129015664037894272559787 := by
 unfold toM
 rw [Fin.val_add]
 exact (Gz (m := 4002409555221667393417789825735904156556882819939007885332058136124031650490837864442687629129015664037894272559787) (R := 39402006196394479212279040100143613805079739270465446667948293404245721771497210611414266254884915640806627990306816) x.val y.val).symm
theorem Pk (x y : Fin Pp) : toM (x - y) = (toM x + (4002409555221667393417789825735904156556882819939007885332058136124031650490837864442687629129015664037894272559787 - toM y)) % 4002409555221667393417789825735904156556882819939007885332058136124031650490837864442687629129015664037894272559787 := by
 unfold toM
 rw [Fin.sub_def]
 exact (M1 (m := 4002409555221667393417789825735904156556882819939007885332058136124031650490837864442687629129015664037894272559787) (R := 39402006196394479212279040100143613805079739270465446667948293404245721771497210611414266254884915640806627990306816) (by decide) y.isLt).symm
theorem Pg (x y : Fin Pp) {v : Nat} (hv : v < 4002409555221667393417789825735904156556882819939007885332058136124031650490837864442687629129015664037894272559787) (h : (v * 39402006196394479212279040100143613805079739270465446667948293404245721771497210611414266254884915640806627990306816) % 4002409555221667393417789825735904156556882819939007885332058136124031650490837864442687629129015664037894272559787 = (toM x * toM y) % 4002409555221667393417789825735904156556882819939007885332058136124031650490837864442687629129015664037894272559787) : v = toM (x * y) := by
 have := Ov (m := 4002409555221667393417789825735904156556882819939007885332058136124031650490837864442687629129015664037894272559787) (R := 39402006196394479212279040100143613805079739270465446667948293404245721771497210611414266254884915640806627990306816) (x := x.val) (y := y.val) UP hv h
 rw [this]
 unfold toM
 rw [Fin.val_mul]
 rfl
theorem Wz (x y : Fin Pp) : Gives prog 69 [.t (.ag [.m x]), .t (.ag [.m y])] (.ag [.m (x + y)]) := by
 have h := SN (x' := .t (.ag [.m x])) (y' := .t (.ag [.m y])) (UM (toM x) (toM y) (zf x) (zf y)) (fun _ _ h => h) (fun _ _ h => h)
 refine h.same ?_
 exact qX rfl rfl (by simp only [flat, Ch.cells, QW])
theorem TH (x y : Fin Pp) : Gives prog 88 [.t (.ag [.m x]), .t (.ag [.m y])] (.ag [.m (x - y)]) := by
 have h := SN (x' := .t (.ag [.m x])) (y' := .t (.ag [.m y])) (Rn (toM x) (toM y) (zf x) (zf y)) (fun _ _ h => h) (fun _ _ h => h)
 refine h.same ?_
 exact qX rfl rfl (by simp only [flat, Ch.cells, Pk])
theorem Un (x y : Fin Pp) : Gives prog 68 [.t (.ag [.m x]), .t (.ag [.m y])] (.ag [.m (x * y)]) := by
 obtain ⟨v, h1, h2, h3⟩ := Pf (toM x) (toM y) (Nat.lt_trans (zf x) (by decide)) (Nat.le_of_lt (zf y))
 have e := Pg x y h1 h2
 have h := SN (x' := .t (.ag [.m x])) (y' := .t (.ag [.m y])) h3 (fun _ _ h => h) (fun _ _ h => h)
 refine h.same ?_
 exact qX rfl rfl (by simp only [flat, Ch.cells, e])
theorem inP (a : Nat) (ha : a < 39402006196394479212279040100143613805079739270465446667948293404245721771497210611414266254884915640806627990306816) : Gives prog 44 [.t (.ag [.n 6 a])] (.ag [.m (ofP a)]) := by
 obtain ⟨v, h1, h2, h3⟩ := ZC a ha
 have e : v = toM (ofP a) := Ju (m := 4002409555221667393417789825735904156556882819939007885332058136124031650490837864442687629129015664037894272559787) (R := 39402006196394479212279040100143613805079739270465446667948293404245721771497210611414266254884915640806627990306816) UP h1 h2
 refine h3.same ?_
 exact qX rfl rfl (by simp only [flat, Ch.cells, e])
theorem aaG (x : Fin Pp) : Gives prog 43 [.t (.ag [.m x])] (.ag [.q x]) := by
 obtain ⟨v, h1, h2, h3⟩ := YP (toM x) (Nat.lt_trans (zf x) (by decide))
 have e : v = x.val := FU (m := 4002409555221667393417789825735904156556882819939007885332058136124031650490837864442687629129015664037894272559787) (R := 39402006196394479212279040100143613805079739270465446667948293404245721771497210611414266254884915640806627990306816) UP x.isLt h1 h2
 have h := WD (x' := .t (.ag [.m x])) h3 (fun _ _ h => h)
 refine h.same ?_
 exact qX rfl rfl (by simp only [flat, Ch.cells, e])
def sE : Entry := sq 69 vw.x vw.x (fun x y => [(none, .ag [.m (x + y)])])
theorem q7 : sE.OK prog := q6 (fun args w => Go.Proofs.enters_of (P := prog) func69 (by kernel_rfl) rfl args w) (fun x y => only (Wz x y))
def tg : Entry := sq 88 vw.x vw.x (fun x y => [(none, .ag [.m (x - y)])])
theorem rI : tg.OK prog := q6 (fun args w => Go.Proofs.enters_of (P := prog) func88 (by kernel_rfl) rfl args w) (fun x y => only (TH x y))
def rf : Entry := sq 68 vw.x vw.x (fun x y => [(none, .ag [.m (x * y)])])
theorem qB : rf.OK prog := q6 (fun args w => Go.Proofs.enters_of (P := prog) func68 (by kernel_rfl) rfl args w) (fun x y => only (Un x y))
def EY : Entry := qA 44 zV.x (fun a => [(some (a < 39402006196394479212279040100143613805079739270465446667948293404245721771497210611414266254884915640806627990306816), .ag [.m (ofP a)])])
theorem vJ : EY.OK prog := qj (fun args w => Go.Proofs.enters_of (P := prog) func44 (by kernel_rfl) rfl args w) (fun u c r hm hc => by
 simp only [List.mem_singleton, pi0] at hm
 obtain ⟨rfl, rfl⟩ := hm
 exact inP u hc)
def yQ : Entry := qA 43 vw.x (fun x => [(none, .ag [.q x])])
theorem tG : yQ.OK prog := qj (fun args w => Go.Proofs.enters_of (P := prog) func43 (by kernel_rfl) rfl args w) (fun x => only (aaG x))
theorem ZI (x : Fin Pp) : Gives prog 98 [.t (.ag [.m x])] (.ag [.m (-x)]) :=
 (qa (P := prog) (env := [tg]) ⟨rI, tt0⟩ func98 0 o0 (r := .ag [.m (0 - x)]) (by kernel_rfl) tt0).same (by rw [show -x = 0 - x from by grind])
def Gp : Entry := qA 98 vw.x (fun x => [(none, .ag [.m (-x)])])
theorem zK : Gp.OK prog := qj (fun args w => Go.Proofs.enters_of (P := prog) func98 (by kernel_rfl) rfl args w) (fun x => only (ZI x))
end Go.Proofs.YtfbkefgoblcmpaaGreat
set_option linter.unusedSimpArgs false
set_option linter.unusedVariables false
namespace Go.Proofs.YtfbkefgoblcmpaaGreat
open Go.Ev Go.RowKit
open Tryz
structure minusPY (a b : Nat) where
 i : Nat
 β : Nat
 o : Nat
 hi : i <= 6
 inv : Wp a b i β o
structure plusPY (a b : Nat) where
 i : Nat
 β : Nat
 o : Nat
 hi : i <= 6
 inv : Xq a b i β o
end Go.Proofs.YtfbkefgoblcmpaaGreat
set_option linter.unusedSimpArgs false
set_option linter.unusedVariables false
namespace Go.Proofs.YtfbkefgoblcmpaaGreat
open Go.Ev Go.RowKit
open Tryz
theorem ZO (x : Fin Pp) : Gives prog 44 [.t (.ag [.q x])] (.ag [.m x]) := by
 have h := WD (x' := .t (.ag [.q x])) (inP x.val (Nat.lt_trans x.isLt (by decide))) (fun _ _ h => h)
 rw [Q8] at h
 exact h
def Dl : Entry := xS 44 NL.x zV.x (fun x => [(none, .ag [.m x])]) (fun a => [(some (smP a), .ag [.m (ofP a)])])
theorem xw : Dl.OK prog := xk (qj (fun args w => Go.Proofs.enters_of (P := prog) func44 (by kernel_rfl) rfl args w) (fun x => only (ZO x))) (qj (fun args w => Go.Proofs.enters_of (P := prog) func44 (by kernel_rfl) rfl args w) (fun a => sZ (fun h => inP a h)))
end Go.Proofs.YtfbkefgoblcmpaaGreat
set_option linter.unusedSimpArgs false
set_option linter.unusedVariables false
namespace Go.Proofs.YtfbkefgoblcmpaaGreat
open Go.Ev Go.RowKit
open Tryz
end Go.Proofs.YtfbkefgoblcmpaaGreat
set_option linter.unusedSimpArgs false
set_option linter.unusedVariables false
namespace Go.Proofs.YtfbkefgoblcmpaaGreat
open Go.Ev Go.RowKit
open Tryz
def xj : Entry := qA 36 XPar.lim (fun h => [(none, .ag [.m (ofP (h % 18446744073709551616))])])
theorem rX : xj.OK prog := qj (fun args w => Go.Proofs.enters_of (P := prog) func36 (by kernel_rfl) rfl args w) (fun h => only (qa (P := prog) (env := [Dl]) ⟨xw, tt0⟩ func36 0 o0 (by kernel_rfl) (And.intro (show smP (h % 18446744073709551616) from Nat.lt_trans (Nat.mod_lt _ (by decide)) (by decide)) tt0)))
end Go.Proofs.YtfbkefgoblcmpaaGreat
set_option linter.unusedSimpArgs false
set_option linter.unusedVariables false
namespace Go.Proofs.YtfbkefgoblcmpaaGreat
open Go.Ev Go.RowKit
open Tryz
end Go.Proofs.YtfbkefgoblcmpaaGreat
