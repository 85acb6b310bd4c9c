/- Pruned: Hc. -/
import Derived.Test.YtokjhbmmdmeafaaGreatQZhCiP
import Derived.Test.YtokjhbmmdmeafaaGreatQZhCxP
import Derived.Test.YtokjhbmmdmeafaaGreatQHa
import Derived.Test.YtokjhbmmdmeafaaGreatQE2
set_option linter.unusedSimpArgs false
set_option linter.unusedVariables false
namespace Go.Proofs.YtokjhbmmdmeafaaGreat
open Go.Ev Go.RowKit
open Tryz
theorem adT {P : Program} {f : FuncId} {x x' : XV} {r : AV} (h : Gives P f [x] r) (e : ∀ w v, XRep w x' v -> XRep w x v) : Gives P f [x'] r := by
 obtain ⟨v, h1, h2⟩ := h
 refine ⟨v, h1, fun w vs hx => ?_⟩
 match vs, hx with
 | [y], hx => exact h2 w [y] ⟨e _ _ hx.1, tt0⟩
theorem ZI {P : Program} {f : FuncId} {x x' y y' : XV} {r : AV} (h : Gives P f [x, y] r) (e : ∀ w v, XRep w x' v -> XRep w x v) (e' : ∀ w v, XRep w y' v -> XRep w y v) : Gives P f [x', y'] r := by
 obtain ⟨v, h1, h2⟩ := h
 refine ⟨v, h1, fun w vs hx => ?_⟩
 match vs, hx with
 | [p, q], hx => exact h2 w [p, q] ⟨e _ _ hx.1, e' _ _ hx.2.1, tt0⟩
theorem XW : 39402006196394479212279040100143613805079739270465446667948293404245721771497210611414266254884915640806627990306816 * 3231460744492646417066832100176244795738767926513225105051837195607029917124509527734802654356338138714468589979680 % 4002409555221667393417789825735904156556882819939007885332058136124031650490837864442687629129015664037894272559787 = 1 % 4002409555221667393417789825735904156556882819939007885332058136124031650490837864442687629129015664037894272559787 := by decide
theorem zf (x : Fin Pp) : toM x < 4002409555221667393417789825735904156556882819939007885332058136124031650490837864442687629129015664037894272559787 := Nat.mod_lt _ (by decide)
theorem VC (x y : Fin Pp) : toM (x + y) = (toM x + toM y) % 4002409555221667393417789825735904156556882819939007885332058136124031650490837864442687629129015664037894272559787 := by
 unfold toM
 rw [Fin.val_add]
 exact (S5 (m := 4002409555221667393417789825735904156556882819939007885332058136124031650490837864442687629129015664037894272559787) (R := 39402006196394479212279040100143613805079739270465446667948293404245721771497210611414266254884915640806627990306816) x.val y.val).symm
theorem VY (x y : Fin Pp) : toM (x - y) = (toM x + (4002409555221667393417789825735904156556882819939007885332058136124031650490837864442687629129015664037894272559787 - toM y)) % 4002409555221667393417789825735904156556882819939007885332058136124031650490837864442687629129015664037894272559787 := by
 unfold toM
 rw [Fin.sub_def]
 exact (Ta (m := 4002409555221667393417789825735904156556882819939007885332058136124031650490837864442687629129015664037894272559787) (R := 39402006196394479212279040100143613805079739270465446667948293404245721771497210611414266254884915640806627990306816) (by decide) y.isLt).symm
theorem VA (x y : Fin Pp) {v : Nat} (hv : v < 4002409555221667393417789825735904156556882819939007885332058136124031650490837864442687629129015664037894272559787) (h : (v * 39402006196394479212279040100143613805079739270465446667948293404245721771497210611414266254884915640806627990306816) % 4002409555221667393417789825735904156556882819939007885332058136124031650490837864442687629129015664037894272559787 = (toM x * toM y) % 4002409555221667393417789825735904156556882819939007885332058136124031650490837864442687629129015664037894272559787) : v = toM (x * y) := by
 have := Qo (m := 4002409555221667393417789825735904156556882819939007885332058136124031650490837864442687629129015664037894272559787) (R := 39402006196394479212279040100143613805079739270465446667948293404245721771497210611414266254884915640806627990306816) (x := x.val) (y := y.val) XW hv h
 rw [this]
 unfold toM
 rw [Fin.val_mul]
 rfl
theorem aeP (x y : Fin Pp) : Gives prog 62 [.t (.ag [.m x]), .t (.ag [.m y])] (.ag [.m (x + y)]) := by
 have h := ZI (x' := .t (.ag [.m x])) (y' := .t (.ag [.m y])) (aaE (toM x) (toM y) (zf x) (zf y)) (fun _ _ h => h) (fun _ _ h => h)
 refine h.same ?_
 exact ry rfl rfl (by simp only [flat, Ch.cells, VC])
theorem aah (x y : Fin Pp) : Gives prog 102 [.t (.ag [.m x]), .t (.ag [.m y])] (.ag [.m (x - y)]) := by
 have h := ZI (x' := .t (.ag [.m x])) (y' := .t (.ag [.m y])) (VJ (toM x) (toM y) (zf x) (zf y)) (fun _ _ h => h) (fun _ _ h => h)
 refine h.same ?_
 exact ry rfl rfl (by simp only [flat, Ch.cells, VY])
theorem Yq (x y : Fin Pp) : Gives prog 61 [.t (.ag [.m x]), .t (.ag [.m y])] (.ag [.m (x * y)]) := by
 obtain ⟨v, h1, h2, h3⟩ := V9 (toM x) (toM y) (Nat.lt_trans (zf x) (by decide)) (Nat.le_of_lt (zf y))
 have e := VA x y h1 h2
 have h := ZI (x' := .t (.ag [.m x])) (y' := .t (.ag [.m y])) h3 (fun _ _ h => h) (fun _ _ h => h)
 refine h.same ?_
 exact ry rfl rfl (by simp only [flat, Ch.cells, e])
theorem inP (a : Nat) (ha : a < 39402006196394479212279040100143613805079739270465446667948293404245721771497210611414266254884915640806627990306816) : Gives prog 60 [.t (.ag [.n 6 a])] (.ag [.m (ofP a)]) := by
 obtain ⟨v, h1, h2, h3⟩ := agJ a ha
 have e : v = toM (ofP a) := L6 (m := 4002409555221667393417789825735904156556882819939007885332058136124031650490837864442687629129015664037894272559787) (R := 39402006196394479212279040100143613805079739270465446667948293404245721771497210611414266254884915640806627990306816) XW h1 h2
 refine h3.same ?_
 exact ry rfl rfl (by simp only [flat, Ch.cells, e])
theorem agt (x : Fin Pp) : Gives prog 66 [.t (.ag [.m x])] (.ag [.q x]) := by
 obtain ⟨v, h1, h2, h3⟩ := adn (toM x) (Nat.lt_trans (zf x) (by decide))
 have e : v = x.val := H3 (m := 4002409555221667393417789825735904156556882819939007885332058136124031650490837864442687629129015664037894272559787) (R := 39402006196394479212279040100143613805079739270465446667948293404245721771497210611414266254884915640806627990306816) XW x.isLt h1 h2
 have h := adT (x' := .t (.ag [.m x])) h3 (fun _ _ h => h)
 refine h.same ?_
 exact ry rfl rfl (by simp only [flat, Ch.cells, e])
def re : Entry := sH 62 we.x we.x (fun x y => [(none, .ag [.m (x + y)])])
theorem qj : re.OK prog := qS (fun args w => Go.Proofs.enters_of (P := prog) func62 (by kernel_rfl) rfl args w) (fun x y => only (aeP x y))
def rL : Entry := sH 102 we.x we.x (fun x y => [(none, .ag [.m (x - y)])])
theorem qH : rL.OK prog := qS (fun args w => Go.Proofs.enters_of (P := prog) func102 (by kernel_rfl) rfl args w) (fun x y => only (aah x y))
def qt : Entry := sH 61 we.x we.x (fun x y => [(none, .ag [.m (x * y)])])
theorem qb : qt.OK prog := qS (fun args w => Go.Proofs.enters_of (P := prog) func61 (by kernel_rfl) rfl args w) (fun x y => only (Yq x y))
def Dw : Entry := p7 60 vy.x (fun a => [(some (a < 39402006196394479212279040100143613805079739270465446667948293404245721771497210611414266254884915640806627990306816), .ag [.m (ofP a)])])
theorem um : Dw.OK prog := pQ (fun args w => Go.Proofs.enters_of (P := prog) func60 (by kernel_rfl) rfl args w) (fun u c r hm hc => by
 simp only [List.mem_singleton, pi0] at hm
 obtain ⟨rfl, rfl⟩ := hm
 exact inP u hc)
def uS : Entry := p7 66 we.x (fun x => [(none, .ag [.q x])])
theorem rS : uS.OK prog := pQ (fun args w => Go.Proofs.enters_of (P := prog) func66 (by kernel_rfl) rfl args w) (fun x => only (agt x))
theorem afM (x : Fin Pp) : Gives prog 65 [.t (.ag [.m x])] (.ag [.m (-x)]) :=
 (pI (P := prog) (env := [rL]) ⟨qH, tt0⟩ func65 0 o0 (r := .ag [.m (0 - x)]) (by kernel_rfl) tt0).same (by rw [show -x = 0 - x from by grind])
def vn : Entry := p7 65 we.x (fun x => [(none, .ag [.m (-x)])])
theorem sf : vn.OK prog := pQ (fun args w => Go.Proofs.enters_of (P := prog) func65 (by kernel_rfl) rfl args w) (fun x => only (afM x))
end Go.Proofs.YtokjhbmmdmeafaaGreat
set_option linter.unusedSimpArgs false
set_option linter.unusedVariables false
namespace Go.Proofs.YtokjhbmmdmeafaaGreat
open Go.Ev Go.RowKit
open Tryz
structure minusPY (a b : Nat) where
 i : Nat
 β : Nat
 o : Nat
 hi : i <= 6
 inv : abC a b i β o
structure plusPY (a b : Nat) where
 i : Nat
 β : Nat
 o : Nat
 hi : i <= 6
 inv : aef a b i β o
end Go.Proofs.YtokjhbmmdmeafaaGreat
set_option linter.unusedSimpArgs false
set_option linter.unusedVariables false
namespace Go.Proofs.YtokjhbmmdmeafaaGreat
open Go.Ev Go.RowKit
open Tryz
theorem agj (x : Fin Pp) : Gives prog 60 [.t (.ag [.q x])] (.ag [.m x]) := by
 have h := adT (x' := .t (.ag [.q x])) (inP x.val (Nat.lt_trans x.isLt (by decide))) (fun _ _ h => h)
 rw [wx] at h
 exact h
def BN : Entry := w8 60 Lv.x vy.x (fun x => [(none, .ag [.m x])]) (fun a => [(some (smP a), .ag [.m (ofP a)])])
theorem vY : BN.OK prog := xw (pQ (fun args w => Go.Proofs.enters_of (P := prog) func60 (by kernel_rfl) rfl args w) (fun x => only (agj x))) (pQ (fun args w => Go.Proofs.enters_of (P := prog) func60 (by kernel_rfl) rfl args w) (fun a => rT (fun h => inP a h)))
end Go.Proofs.YtokjhbmmdmeafaaGreat
set_option linter.unusedSimpArgs false
set_option linter.unusedVariables false
namespace Go.Proofs.YtokjhbmmdmeafaaGreat
open Go.Ev Go.RowKit
open Tryz
def xe : Entry := p7 126 Xr (fun a => [(some (DE a), .ag [.q (aeW a)])])
theorem vc : xe.OK prog := pQ (fun args w => Go.Proofs.enters_of (P := prog) func126 (by kernel_rfl) rfl args w) (fun a => match a with
 | .inl a => rT (fun h => pI (P := prog) (env := [BN, uS]) ⟨vY, rS, tt0⟩ func126 1 o0 (by kernel_rfl) tt0)
 | .inr a => rT (fun h => pI (P := prog) (env := [BN, uS]) ⟨vY, rS, tt0⟩ func126 1 o0 (by kernel_rfl) (ai h tt0)))
end Go.Proofs.YtokjhbmmdmeafaaGreat
set_option linter.unusedSimpArgs false
set_option linter.unusedVariables false
namespace Go.Proofs.YtokjhbmmdmeafaaGreat
open Go.Ev Go.RowKit
open Tryz
def tl : Entry := p7 63 XPar.lim (fun h => [(none, .ag [.m (ofP (h % 18446744073709551616))])])
theorem qz : tl.OK prog := pQ (fun args w => Go.Proofs.enters_of (P := prog) func63 (by kernel_rfl) rfl args w) (fun h => only (pI (P := prog) (env := [BN]) ⟨vY, tt0⟩ func63 0 o0 (by kernel_rfl) (ai (show smP (h % 18446744073709551616) from Nat.lt_trans (Nat.mod_lt _ (by decide)) (by decide)) tt0)))
end Go.Proofs.YtokjhbmmdmeafaaGreat
set_option linter.unusedSimpArgs false
set_option linter.unusedVariables false
namespace Go.Proofs.YtokjhbmmdmeafaaGreat
open Go.Ev Go.RowKit
open Tryz
theorem MZ (a : Nat) (ha : a < 39402006196394479212279040100143613805079739270465446667948293404245721771497210611414266254884915640806627990306816) (h : a < 4002409555221667393417789825735904156556882819939007885332058136124031650490837864442687629129015664037894272559787) : Gives prog 118 [.t (.ag [.n 6 a])] (.v (.bool true)) :=
 pI (P := prog) (env := [xe]) ⟨vc, tt0⟩ func118 0 (oN [] [(5, 0)]) (by kernel_rfl) (ai (show flat [.q (ofP a)] = flat [.n 6 a] from by simp only [flat, Ch.cells]; rw [show (ofP a).val = a from Nat.mod_eq_of_lt h])  (ai (show DE (.inr a) from ha) tt0))
theorem NN (a : Nat) (ha : a < 39402006196394479212279040100143613805079739270465446667948293404245721771497210611414266254884915640806627990306816) (h : 4002409555221667393417789825735904156556882819939007885332058136124031650490837864442687629129015664037894272559787 <= a) : Gives prog 118 [.t (.ag [.n 6 a])] (.v (.bool false)) :=
 pI (P := prog) (env := [xe]) ⟨vc, tt0⟩ func118 0 (oN [] [(5, 1)]) (by kernel_rfl) (ai (show ¬ flat [.q (ofP a)] = flat [.n 6 a] from fun e => by
    have h1 := v9 6 (ofP a).val a (Nat.lt_trans (ofP a).isLt (by decide)) (by simpa using ha) (by simpa [flat, Ch.cells] using e)
    have h2 := (ofP a).isLt
    rw [h1] at h2
    exact absurd h2 (Nat.not_lt.2 h))  (ai (show DE (.inr a) from ha) tt0))
def Cr : Entry := p7 118 vy.x (fun a => [(some (a < 39402006196394479212279040100143613805079739270465446667948293404245721771497210611414266254884915640806627990306816 /\ a < 4002409555221667393417789825735904156556882819939007885332058136124031650490837864442687629129015664037894272559787), .v (.bool true)), (some (a < 39402006196394479212279040100143613805079739270465446667948293404245721771497210611414266254884915640806627990306816 /\ 4002409555221667393417789825735904156556882819939007885332058136124031650490837864442687629129015664037894272559787 <= a), .v (.bool false))])
theorem H7 : Cr.OK prog := pQ (fun args w => Go.Proofs.enters_of (P := prog) func118 (by kernel_rfl) rfl args w) (fun a c r hm hc => by
 simp only [List.mem_cons, pi0, List.not_mem_nil, or_false] at hm
 rcases hm with ⟨rfl, rfl⟩ | ⟨rfl, rfl⟩
 ·exact MZ a hc.1 hc.2
 ·exact NN a hc.1 hc.2)
end Go.Proofs.YtokjhbmmdmeafaaGreat
