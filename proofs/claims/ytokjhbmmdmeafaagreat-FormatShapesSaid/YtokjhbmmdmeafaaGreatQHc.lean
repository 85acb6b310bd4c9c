/- Pruned: Hc. -/
import Derived.Test.YtokjhbmmdmeafaaGreatQZhCiP
import Derived.Test.YtokjhbmmdmeafaaGreatQZhCxP
import Derived.Test.YtokjhbmmdmeafaaGreatQHa
import Derived.Test.YtokjhbmmdmeafaaGreatQE2
set_option linter.unusedSimpArgs false
set_option linter.unusedVariables false
namespace Go.Proofs.YtokjhbmmdmeafaaGreat
open Go.Ev Go.RowKit
open Tryz
theorem ZO {P : Program} {f : FuncId} {x x' : XV} {r : AV} (h : Gives P f [x] r) (e : ∀ w v, XRep w x' v -> XRep w x v) : Gives P f [x'] r := by
 obtain ⟨v, h1, h2⟩ := h
 refine ⟨v, h1, fun w vs hx => ?_⟩
 match vs, hx with
 | [y], hx => exact h2 w [y] ⟨e _ _ hx.1, tt0⟩
theorem Wv {P : Program} {f : FuncId} {x x' y y' : XV} {r : AV} (h : Gives P f [x, y] r) (e : ∀ w v, XRep w x' v -> XRep w x v) (e' : ∀ w v, XRep w y' v -> XRep w y v) : Gives P f [x', y'] r := by
 obtain ⟨v, h1, h2⟩ := h
 refine ⟨v, h1, fun w vs hx => ?_⟩
 match vs, hx with
 | [p, q], hx => exact h2 w [p, q] ⟨e _ _ hx.1, e' _ _ hx.2.1, tt0⟩
theorem Wn : 39402006196394479212279040100143613805079739270465446667948293404245721771497210611414266254884915640806627990306816 * 3231460744492646417066832100176244795738767926513225105051837195607029917124509527734802654356338138714468589979680 % 4002409555221667393417789825735904156556882819939007885332058136124031650490837864442687629129015664037894272559787 = 1 % 4002409555221667393417789825735904156556882819939007885332058136124031650490837864442687629129015664037894272559787 := by decide
theorem xJ (x : Fin Pp) : toM x < 4002409555221667393417789825735904156556882819939007885332058136124031650490837864442687629129015664037894272559787 := Nat.mod_lt _ (by decide)
theorem Q7 (x y : Fin Pp) : toM (x + y) = (toM x + toM y) % 4002409555221667393417789825735904156556882819939007885332058136124031650490837864442687629129015664037894272559787 := by
 unfold toM
 rw [Fin.val_add]
 exact (L7 (m := 4002409555221667393417789825735904156556882819939007885332058136124031650490837864442687629129015664037894272559787) (R := 39402006196394479212279040100143613805079739270465446667948293404245721771497210611414266254884915640806627990306816) x.val y.val).symm
theorem QT (x y : Fin Pp) : toM (x - y) = (toM x + (4002409555221667393417789825735904156556882819939007885332058136124031650490837864442687629129015664037894272559787 - toM y)) % 4002409555221667393417789825735904156556882819939007885332058136124031650490837864442687629129015664037894272559787 := by
 unfold toM
 rw [Fin.sub_def]
 exact (QM (m := 4002409555221667393417789825735904156556882819939007885332058136124031650490837864442687629129015664037894272559787) (R := 39402006196394479212279040100143613805079739270465446667948293404245721771497210611414266254884915640806627990306816) (by decide) y.isLt).symm
theorem SR (x y : Fin Pp) {v : Nat} (hv : v < 4002409555221667393417789825735904156556882819939007885332058136124031650490837864442687629129015664037894272559787) (h : (v * 39402006196394479212279040100143613805079739270465446667948293404245721771497210611414266254884915640806627990306816) % 4002409555221667393417789825735904156556882819939007885332058136124031650490837864442687629129015664037894272559787 = (toM x * toM y) % 4002409555221667393417789825735904156556882819939007885332058136124031650490837864442687629129015664037894272559787) : v = toM (x * y) := by
 have := NX (m := 4002409555221667393417789825735904156556882819939007885332058136124031650490837864442687629129015664037894272559787) (R := 39402006196394479212279040100143613805079739270465446667948293404245721771497210611414266254884915640806627990306816) (x := x.val) (y := y.val) Wn hv h
 rw [this]
 unfold toM
 rw [Fin.val_mul]
 rfl
theorem Xn (x y : Fin Pp) : Gives prog 62 [.t (.ag [.m x]), .t (.ag [.m y])] (.ag [.m (x + y)]) := by
 have h := Wv (x' := .t (.ag [.m x])) (y' := .t (.ag [.m y])) (VW (toM x) (toM y) (xJ x) (xJ y)) (fun _ _ h => h) (fun _ _ h => h)
 refine h.same ?_
 exact qV rfl rfl (by simp only [flat, Ch.cells, Q7])
theorem VO (x y : Fin Pp) : Gives prog 102 [.t (.ag [.m x]), .t (.ag [.m y])] (.ag [.m (x - y)]) := by
 have h := Wv (x' := .t (.ag [.m x])) (y' := .t (.ag [.m y])) (Rl (toM x) (toM y) (xJ x) (xJ y)) (fun _ _ h => h) (fun _ _ h => h)
 refine h.same ?_
 exact qV rfl rfl (by simp only [flat, Ch.cells, QT])
theorem Vy (x y : Fin Pp) : Gives prog 61 [.t (.ag [.m x]), .t (.ag [.m y])] (.ag [.m (x * y)]) := by
 obtain ⟨v, h1, h2, h3⟩ := SG (toM x) (toM y) (Nat.lt_trans (xJ x) (by decide)) (Nat.le_of_lt (xJ y))
 have e := SR x y h1 h2
 have h := Wv (x' := .t (.ag [.m x])) (y' := .t (.ag [.m y])) h3 (fun _ _ h => h) (fun _ _ h => h)
 refine h.same ?_
 exact qV rfl rfl (by simp only [flat, Ch.cells, e])
theorem inP (a : Nat) (ha : a < 39402006196394479212279040100143613805079739270465446667948293404245721771497210611414266254884915640806627990306816) : Gives prog 60 [.t (.ag [.n 6 a])] (.ag [.m (ofP a)]) := by
 obtain ⟨v, h1, h2, h3⟩ := acP a ha
 have e : v = toM (ofP a) := R0 (m := 4002409555221667393417789825735904156556882819939007885332058136124031650490837864442687629129015664037894272559787) (R := 39402006196394479212279040100143613805079739270465446667948293404245721771497210611414266254884915640806627990306816) Wn h1 h2
 refine h3.same ?_
 exact qV rfl rfl (by simp only [flat, Ch.cells, e])
theorem abS (x : Fin Pp) : Gives prog 66 [.t (.ag [.m x])] (.ag [.q x]) := by
 obtain ⟨v, h1, h2, h3⟩ := aa4 (toM x) (Nat.lt_trans (xJ x) (by decide))
 have e : v = x.val := Oj (m := 4002409555221667393417789825735904156556882819939007885332058136124031650490837864442687629129015664037894272559787) (R := 39402006196394479212279040100143613805079739270465446667948293404245721771497210611414266254884915640806627990306816) Wn x.isLt h1 h2
 have h := ZO (x' := .t (.ag [.m x])) h3 (fun _ _ h => h)
 refine h.same ?_
 exact qV rfl rfl (by simp only [flat, Ch.cells, e])
def qE : Entry := r6 62 vh.x vh.x (fun x y => [(none, .ag [.m (x + y)])])
theorem pW : qE.OK prog := qw (fun args w => Go.Proofs.enters_of (P := prog) func62 (by kernel_rfl) rfl args w) (fun x y => only (Xn x y))
def qU : Entry := r6 102 vh.x vh.x (fun x y => [(none, .ag [.m (x - y)])])
theorem ql : qU.OK prog := qw (fun args w => Go.Proofs.enters_of (P := prog) func102 (by kernel_rfl) rfl args w) (fun x y => only (VO x y))
def qa : Entry := r6 61 vh.x vh.x (fun x y => [(none, .ag [.m (x * y)])])
theorem pR : qa.OK prog := qw (fun args w => Go.Proofs.enters_of (P := prog) func61 (by kernel_rfl) rfl args w) (fun x y => only (Vy x y))
def DX : Entry := pS 60 u6.x (fun a => [(some (a < 39402006196394479212279040100143613805079739270465446667948293404245721771497210611414266254884915640806627990306816), .ag [.m (ofP a)])])
theorem tY : DX.OK prog := pE (fun args w => Go.Proofs.enters_of (P := prog) func60 (by kernel_rfl) rfl args w) (fun u c r hm hc => by
 simp only [List.mem_singleton, pi0] at hm
 obtain ⟨rfl, rfl⟩ := hm
 exact inP u hc)
def tJ : Entry := pS 66 vh.x (fun x => [(none, .ag [.q x])])
theorem q9 : tJ.OK prog := pE (fun args w => Go.Proofs.enters_of (P := prog) func66 (by kernel_rfl) rfl args w) (fun x => only (abS x))
theorem abl (x : Fin Pp) : Gives prog 65 [.t (.ag [.m x])] (.ag [.m (-x)]) :=
 (pq (P := prog) (env := [qU]) ⟨ql, tt0⟩ func65 0 o0 (r := .ag [.m (0 - x)]) (by kernel_rfl) tt0).same (by rw [show -x = 0 - x from by grind])
def uk : Entry := pS 65 vh.x (fun x => [(none, .ag [.m (-x)])])
theorem rt : uk.OK prog := pE (fun args w => Go.Proofs.enters_of (P := prog) func65 (by kernel_rfl) rfl args w) (fun x => only (abl x))
end Go.Proofs.YtokjhbmmdmeafaaGreat
set_option linter.unusedSimpArgs false
set_option linter.unusedVariables false
namespace Go.Proofs.YtokjhbmmdmeafaaGreat
open Go.Ev Go.RowKit
open Tryz
structure minusPY (a b : Nat) where
 i : Nat
 β : Nat
 o : Nat
 hi : i <= 6
 inv : Z6 a b i β o
structure plusPY (a b : Nat) where
 i : Nat
 β : Nat
 o : Nat
 hi : i <= 6
 inv : ZJ a b i β o
end Go.Proofs.YtokjhbmmdmeafaaGreat
set_option linter.unusedSimpArgs false
set_option linter.unusedVariables false
namespace Go.Proofs.YtokjhbmmdmeafaaGreat
open Go.Ev Go.RowKit
open Tryz
theorem acx (x : Fin Pp) : Gives prog 60 [.t (.ag [.q x])] (.ag [.m x]) := by
 have h := ZO (x' := .t (.ag [.q x])) (inP x.val (Nat.lt_trans x.isLt (by decide))) (fun _ _ h => h)
 rw [yr] at h
 exact h
def zZ : Entry := yv 60 Jt.x u6.x (fun x => [(none, .ag [.m x])]) (fun a => [(some (smP a), .ag [.m (ofP a)])])
theorem u9 : zZ.OK prog := zO (pE (fun args w => Go.Proofs.enters_of (P := prog) func60 (by kernel_rfl) rfl args w) (fun x => only (acx x))) (pE (fun args w => Go.Proofs.enters_of (P := prog) func60 (by kernel_rfl) rfl args w) (fun a => ur (fun h => inP a h)))
end Go.Proofs.YtokjhbmmdmeafaaGreat
set_option linter.unusedSimpArgs false
set_option linter.unusedVariables false
namespace Go.Proofs.YtokjhbmmdmeafaaGreat
open Go.Ev Go.RowKit
open Tryz
def Ar : Entry := pS 126 XU (fun a => [(some (Vk a), .ag [.q (abP a)])])
theorem zW : Ar.OK prog := pE (fun args w => Go.Proofs.enters_of (P := prog) func126 (by kernel_rfl) rfl args w) (fun a => match a with
 | .inl a => ur (fun h => pq (P := prog) (env := [zZ, tJ]) ⟨u9, q9, tt0⟩ func126 1 o0 (by kernel_rfl) tt0)
 | .inr a => ur (fun h => pq (P := prog) (env := [zZ, tJ]) ⟨u9, q9, tt0⟩ func126 1 o0 (by kernel_rfl) (ai h tt0)))
end Go.Proofs.YtokjhbmmdmeafaaGreat
set_option linter.unusedSimpArgs false
set_option linter.unusedVariables false
namespace Go.Proofs.YtokjhbmmdmeafaaGreat
open Go.Ev Go.RowKit
open Tryz
def sE : Entry := pS 63 XPar.lim (fun h => [(none, .ag [.m (ofP (h % 18446744073709551616))])])
theorem qe : sE.OK prog := pE (fun args w => Go.Proofs.enters_of (P := prog) func63 (by kernel_rfl) rfl args w) (fun h => only (pq (P := prog) (env := [zZ]) ⟨u9, tt0⟩ func63 0 o0 (by kernel_rfl) (ai (show smP (h % 18446744073709551616) from Nat.lt_trans (Nat.mod_lt _ (by decide)) (by decide)) tt0)))
end Go.Proofs.YtokjhbmmdmeafaaGreat
set_option linter.unusedSimpArgs false
set_option linter.unusedVariables false
namespace Go.Proofs.YtokjhbmmdmeafaaGreat
open Go.Ev Go.RowKit
open Tryz
theorem Kq (a : Nat) (ha : a < 39402006196394479212279040100143613805079739270465446667948293404245721771497210611414266254884915640806627990306816) (h : a < 4002409555221667393417789825735904156556882819939007885332058136124031650490837864442687629129015664037894272559787) : Gives prog 118 [.t (.ag [.n 6 a])] (.v (.bool true)) :=
 pq (P := prog) (env := [Ar]) ⟨zW, tt0⟩ func118 0 (oN [] [(5, 0)]) (by kernel_rfl) (ai (show flat [.q (ofP a)] = flat [.n 6 a] from by simp only [flat, Ch.cells]; rw [show (ofP a).val = a from Nat.mod_eq_of_lt h])  (ai (show Vk (.inr a) from ha) tt0))
theorem Ls (a : Nat) (ha : a < 39402006196394479212279040100143613805079739270465446667948293404245721771497210611414266254884915640806627990306816) (h : 4002409555221667393417789825735904156556882819939007885332058136124031650490837864442687629129015664037894272559787 <= a) : Gives prog 118 [.t (.ag [.n 6 a])] (.v (.bool false)) :=
 pq (P := prog) (env := [Ar]) ⟨zW, tt0⟩ func118 0 (oN [] [(5, 1)]) (by kernel_rfl) (ai (show ¬ flat [.q (ofP a)] = flat [.n 6 a] from fun e => by
    have h1 := uY 6 (ofP a).val a (Nat.lt_trans (ofP a).isLt (by decide)) (by simpa using ha) (by simpa [flat, Ch.cells] using e)
    have h2 := (ofP a).isLt
    rw [h1] at h2
    exact absurd h2 (Nat.not_lt.2 h))  (ai (show Vk (.inr a) from ha) tt0))
def Be : Entry := pS 118 u6.x (fun a => [(some (a < 39402006196394479212279040100143613805079739270465446667948293404245721771497210611414266254884915640806627990306816 /\ a < 4002409555221667393417789825735904156556882819939007885332058136124031650490837864442687629129015664037894272559787), .v (.bool true)), (some (a < 39402006196394479212279040100143613805079739270465446667948293404245721771497210611414266254884915640806627990306816 /\ 4002409555221667393417789825735904156556882819939007885332058136124031650490837864442687629129015664037894272559787 <= a), .v (.bool false))])
theorem Fp : Be.OK prog := pE (fun args w => Go.Proofs.enters_of (P := prog) func118 (by kernel_rfl) rfl args w) (fun a c r hm hc => by
 simp only [List.mem_cons, pi0, List.not_mem_nil, or_false] at hm
 rcases hm with ⟨rfl, rfl⟩ | ⟨rfl, rfl⟩
 ·exact Kq a hc.1 hc.2
 ·exact Ls a hc.1 hc.2)
end Go.Proofs.YtokjhbmmdmeafaaGreat
