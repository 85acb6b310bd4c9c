/- Pruned: Hc. -/
import Derived.Test.YtobgpmclgacbmaaQZhCiP
import Derived.Test.YtobgpmclgacbmaaQZhCxP
import Derived.Test.YtobgpmclgacbmaaQHa
import Derived.Test.YtobgpmclgacbmaaQE2
/- Contracts of core's P on elements: sums, differences, products, negatives, small ones, the way in and out. -/
set_option linter.unusedSimpArgs false
set_option linter.unusedVariables false
namespace Go.Proofs.Ytobgpmclgacbmaa
open Go.Ev Go.RowKit

theorem ga1P {P : Program} {f : FuncId} {x x' : XV} {r : AV} (h : Gives P f [x] r) (e : ∀ w v, XRep w x' v → XRep w x v) : Gives P f [x'] r := by
  obtain ⟨v, h1, h2⟩ := h
  refine ⟨v, h1, fun w vs hx => ?_⟩
  match vs, hx with
  | [y], hx => exact h2 w [y] ⟨e _ _ hx.1, trivial⟩
theorem ga2P {P : Program} {f : FuncId} {x x' y y' : XV} {r : AV} (h : Gives P f [x, y] r) (e : ∀ w v, XRep w x' v → XRep w x v) (e' : ∀ w v, XRep w y' v → XRep w y v) : Gives P f [x', y'] r := by
  obtain ⟨v, h1, h2⟩ := h
  refine ⟨v, h1, fun w vs hx => ?_⟩
  match vs, hx with
  | [p, q], hx => exact h2 w [p, q] ⟨e _ _ hx.1, e' _ _ hx.2.1, trivial⟩

theorem invP : 39402006196394479212279040100143613805079739270465446667948293404245721771497210611414266254884915640806627990306816 * 3231460744492646417066832100176244795738767926513225105051837195607029917124509527734802654356338138714468589979680 % 4002409555221667393417789825735904156556882819939007885332058136124031650490837864442687629129015664037894272559787 = 1 % 4002409555221667393417789825735904156556882819939007885332058136124031650490837864442687629129015664037894272559787 := by decide
theorem toM_lt (x : Fin Pp) : toM x < 4002409555221667393417789825735904156556882819939007885332058136124031650490837864442687629129015664037894272559787 := Nat.mod_lt _ (by decide)
theorem toM_add (x y : Fin Pp) : toM (x + y) = (toM x + toM y) % 4002409555221667393417789825735904156556882819939007885332058136124031650490837864442687629129015664037894272559787 := by
  unfold toM
  rw [Fin.val_add]
  exact (mont_add (m := 4002409555221667393417789825735904156556882819939007885332058136124031650490837864442687629129015664037894272559787) (R := 39402006196394479212279040100143613805079739270465446667948293404245721771497210611414266254884915640806627990306816) x.val y.val).symm
theorem toM_sub (x y : Fin Pp) : toM (x - y) = (toM x + (4002409555221667393417789825735904156556882819939007885332058136124031650490837864442687629129015664037894272559787 - toM y)) % 4002409555221667393417789825735904156556882819939007885332058136124031650490837864442687629129015664037894272559787 := by
  unfold toM
  rw [Fin.sub_def]
  exact (mont_sub (m := 4002409555221667393417789825735904156556882819939007885332058136124031650490837864442687629129015664037894272559787) (R := 39402006196394479212279040100143613805079739270465446667948293404245721771497210611414266254884915640806627990306816) (by decide) y.isLt).symm
theorem toM_mul (x y : Fin Pp) {v : Nat} (hv : v < 4002409555221667393417789825735904156556882819939007885332058136124031650490837864442687629129015664037894272559787) (h : (v * 39402006196394479212279040100143613805079739270465446667948293404245721771497210611414266254884915640806627990306816) % 4002409555221667393417789825735904156556882819939007885332058136124031650490837864442687629129015664037894272559787 = (toM x * toM y) % 4002409555221667393417789825735904156556882819939007885332058136124031650490837864442687629129015664037894272559787) : v = toM (x * y) := by
  have := mont_mul (m := 4002409555221667393417789825735904156556882819939007885332058136124031650490837864442687629129015664037894272559787) (R := 39402006196394479212279040100143613805079739270465446667948293404245721771497210611414266254884915640806627990306816) (x := x.val) (y := y.val) invP hv h
  rw [this]
  unfold toM
  rw [Fin.val_mul]
  rfl

theorem plusP (x y : Fin Pp) : Gives Try.prog 23 [.t (.ag [.m x]), .t (.ag [.m y])] (.ag [.m (x + y)]) := by
  have h := ga2P (x' := .t (.ag [.m x])) (y' := .t (.ag [.m y])) (plusPN (toM x) (toM y) (toM_lt x) (toM_lt y)) (fun _ _ h => h) (fun _ _ h => h)
  refine h.same ?_
  exact ag_same rfl rfl (by simp only [flat, Ch.cells, toM_add])
theorem minusP (x y : Fin Pp) : Gives Try.prog 52 [.t (.ag [.m x]), .t (.ag [.m y])] (.ag [.m (x - y)]) := by
  have h := ga2P (x' := .t (.ag [.m x])) (y' := .t (.ag [.m y])) (minusPN (toM x) (toM y) (toM_lt x) (toM_lt y)) (fun _ _ h => h) (fun _ _ h => h)
  refine h.same ?_
  exact ag_same rfl rfl (by simp only [flat, Ch.cells, toM_sub])
theorem timesP (x y : Fin Pp) : Gives Try.prog 22 [.t (.ag [.m x]), .t (.ag [.m y])] (.ag [.m (x * y)]) := by
  obtain ⟨v, h1, h2, h3⟩ := timesPN (toM x) (toM y) (Nat.lt_trans (toM_lt x) (by decide)) (Nat.le_of_lt (toM_lt y))
  have e := toM_mul x y h1 h2
  have h := ga2P (x' := .t (.ag [.m x])) (y' := .t (.ag [.m y])) h3 (fun _ _ h => h) (fun _ _ h => h)
  refine h.same ?_
  exact ag_same rfl rfl (by simp only [flat, Ch.cells, e])
theorem inP (a : Nat) (ha : a < 39402006196394479212279040100143613805079739270465446667948293404245721771497210611414266254884915640806627990306816) : Gives Try.prog 21 [.t (.ag [.n 6 a])] (.ag [.m (ofP a)]) := by
  obtain ⟨v, h1, h2, h3⟩ := inPN a ha
  have e : v = toM (ofP a) := mont_in (m := 4002409555221667393417789825735904156556882819939007885332058136124031650490837864442687629129015664037894272559787) (R := 39402006196394479212279040100143613805079739270465446667948293404245721771497210611414266254884915640806627990306816) invP h1 h2
  refine h3.same ?_
  exact ag_same rfl rfl (by simp only [flat, Ch.cells, e])
theorem outP (x : Fin Pp) : Gives Try.prog 27 [.t (.ag [.m x])] (.ag [.q x]) := by
  obtain ⟨v, h1, h2, h3⟩ := outPN (toM x) (Nat.lt_trans (toM_lt x) (by decide))
  have e : v = x.val := mont_out (m := 4002409555221667393417789825735904156556882819939007885332058136124031650490837864442687629129015664037894272559787) (R := 39402006196394479212279040100143613805079739270465446667948293404245721771497210611414266254884915640806627990306816) invP x.isLt h1 h2
  have h := ga1P (x' := .t (.ag [.m x])) h3 (fun _ _ h => h)
  refine h.same ?_
  exact ag_same rfl rfl (by simp only [flat, Ch.cells, e])

def ePlusP : Entry := entry2 23 parM.x parM.x (fun x y => [(none, .ag [.m (x + y)])])
theorem ePlusP_ok : ePlusP.OK Try.prog := entry2_ok (fun args w => Go.Proofs.enters_of (P := Try.prog) Try.func23 (by kernel_rfl) rfl args w) (fun x y => only (plusP x y))
def eMinusP : Entry := entry2 52 parM.x parM.x (fun x y => [(none, .ag [.m (x - y)])])
theorem eMinusP_ok : eMinusP.OK Try.prog := entry2_ok (fun args w => Go.Proofs.enters_of (P := Try.prog) Try.func52 (by kernel_rfl) rfl args w) (fun x y => only (minusP x y))
def eTimesP : Entry := entry2 22 parM.x parM.x (fun x y => [(none, .ag [.m (x * y)])])
theorem eTimesP_ok : eTimesP.OK Try.prog := entry2_ok (fun args w => Go.Proofs.enters_of (P := Try.prog) Try.func22 (by kernel_rfl) rfl args w) (fun x y => only (timesP x y))
def eInP : Entry := entry1 21 parN6.x (fun a => [(some (a < 39402006196394479212279040100143613805079739270465446667948293404245721771497210611414266254884915640806627990306816), .ag [.m (ofP a)])])
theorem eInP_ok : eInP.OK Try.prog := entry1_ok (fun args w => Go.Proofs.enters_of (P := Try.prog) Try.func21 (by kernel_rfl) rfl args w) (fun u c r hm hc => by
  simp only [List.mem_singleton, Prod.mk.injEq] at hm
  obtain ⟨rfl, rfl⟩ := hm
  exact inP u hc)
def eOutP : Entry := entry1 27 parM.x (fun x => [(none, .ag [.q x])])
theorem eOutP_ok : eOutP.OK Try.prog := entry1_ok (fun args w => Go.Proofs.enters_of (P := Try.prog) Try.func27 (by kernel_rfl) rfl args w) (fun x => only (outP x))

theorem negP (x : Fin Pp) : Gives Try.prog 26 [.t (.ag [.m x])] (.ag [.m (-x)]) :=
  (fn_gives (P := Try.prog) (env := [eMinusP]) ⟨eMinusP_ok, trivial⟩ Try.func26 0 o0 (r := .ag [.m (0 - x)]) (by kernel_rfl) trivial).same (by rw [show -x = 0 - x from by grind])
def eNegP : Entry := entry1 26 parM.x (fun x => [(none, .ag [.m (-x)])])
theorem eNegP_ok : eNegP.OK Try.prog := entry1_ok (fun args w => Go.Proofs.enters_of (P := Try.prog) Try.func26 (by kernel_rfl) rfl args w) (fun x => only (negP x))
end Go.Proofs.Ytobgpmclgacbmaa

/- Contracts of the reference of the field of order p: comparison, difference, sum, remainder, the sums of elements. -/
set_option linter.unusedSimpArgs false
set_option linter.unusedVariables false
namespace Go.Proofs.Ytobgpmclgacbmaa
open Go.Ev Go.RowKit

structure minusPY (a b : Nat) where
  i : Nat
  β : Nat
  o : Nat
  hi : i ≤ 6
  inv : mInv a b i β o
structure plusPY (a b : Nat) where
  i : Nat
  β : Nat
  o : Nat
  hi : i ≤ 6
  inv : pInv a b i β o
end Go.Proofs.Ytobgpmclgacbmaa

/- The way in, of elements and of numbers. -/
set_option linter.unusedSimpArgs false
set_option linter.unusedVariables false
namespace Go.Proofs.Ytobgpmclgacbmaa
open Go.Ev Go.RowKit

theorem inPq (x : Fin Pp) : Gives Try.prog 21 [.t (.ag [.q x])] (.ag [.m x]) := by
  have h := ga1P (x' := .t (.ag [.q x])) (inP x.val (Nat.lt_trans x.isLt (by decide))) (fun _ _ h => h)
  rw [ofP_val] at h
  exact h
def eInPq : Entry := entryOr1 21 parQs.x parN6.x (fun x => [(none, .ag [.m x])]) (fun a => [(some (smP a), .ag [.m (ofP a)])])
theorem eInPq_ok : eInPq.OK Try.prog := entryOr1_ok (entry1_ok (fun args w => Go.Proofs.enters_of (P := Try.prog) Try.func21 (by kernel_rfl) rfl args w) (fun x => only (inPq x))) (entry1_ok (fun args w => Go.Proofs.enters_of (P := Try.prog) Try.func21 (by kernel_rfl) rfl args w) (fun a => onlyIf (fun h => inP a h)))
end Go.Proofs.Ytobgpmclgacbmaa

/- Contracts of the reference of the field of order p on elements, and of the layer fp: remainders, sums, differences, negatives, products. -/
set_option linter.unusedSimpArgs false
set_option linter.unusedVariables false
namespace Go.Proofs.Ytobgpmclgacbmaa
open Go.Ev Go.RowKit

def eFCleanP : Entry := entry1 35 par1P (fun a => [(some (smtP a), .ag [.q (eltP a)])])
theorem eFCleanP_ok : eFCleanP.OK Try.prog := entry1_ok (fun args w => Go.Proofs.enters_of (P := Try.prog) Try.func35 (by kernel_rfl) rfl args w) (fun a => match a with
  | .inl a => onlyIf (fun h => fn_gives (P := Try.prog) (env := [eInPq, eOutP]) ⟨eInPq_ok, eOutP_ok, trivial⟩ Try.func35 1 o0 (by kernel_rfl) trivial)
  | .inr a => onlyIf (fun h => fn_gives (P := Try.prog) (env := [eInPq, eOutP]) ⟨eInPq_ok, eOutP_ok, trivial⟩ Try.func35 1 o0 (by kernel_rfl) (And.intro h trivial)))
end Go.Proofs.Ytobgpmclgacbmaa

/- Contracts: small numbers, of the layer fp and of its reference. -/
set_option linter.unusedSimpArgs false
set_option linter.unusedVariables false
namespace Go.Proofs.Ytobgpmclgacbmaa
open Go.Ev Go.RowKit

def eSmP : Entry := entry1 24 XPar.lim (fun h => [(none, .ag [.m (ofP (h % 18446744073709551616))])])
theorem eSmP_ok : eSmP.OK Try.prog := entry1_ok (fun args w => Go.Proofs.enters_of (P := Try.prog) Try.func24 (by kernel_rfl) rfl args w) (fun h => only (fn_gives (P := Try.prog) (env := [eInPq]) ⟨eInPq_ok, trivial⟩ Try.func24 0 o0 (by kernel_rfl) (And.intro (show smP (h % 18446744073709551616) from Nat.lt_trans (Nat.mod_lt _ (by decide)) (by decide)) trivial)))
end Go.Proofs.Ytobgpmclgacbmaa

/- The contract of the layer fp: which numbers are elements. -/
set_option linter.unusedSimpArgs false
set_option linter.unusedVariables false
namespace Go.Proofs.Ytobgpmclgacbmaa
open Go.Ev Go.RowKit

theorem rightP_lo (a : Nat) (ha : a < 39402006196394479212279040100143613805079739270465446667948293404245721771497210611414266254884915640806627990306816) (h : a < 4002409555221667393417789825735904156556882819939007885332058136124031650490837864442687629129015664037894272559787) : Gives Try.prog 65 [.t (.ag [.n 6 a])] (.v (.bool true)) :=
  fn_gives (P := Try.prog) (env := [eFCleanP]) ⟨eFCleanP_ok, trivial⟩ Try.func65 0 (oN [] [(5, 0)]) (by kernel_rfl)
      (And.intro (show flat [.q (ofP a)] = flat [.n 6 a] from by simp only [flat, Ch.cells]; rw [show (ofP a).val = a from Nat.mod_eq_of_lt h]) 
      (And.intro (show smtP (.inr a) from ha) trivial))
theorem rightP_no (a : Nat) (ha : a < 39402006196394479212279040100143613805079739270465446667948293404245721771497210611414266254884915640806627990306816) (h : 4002409555221667393417789825735904156556882819939007885332058136124031650490837864442687629129015664037894272559787 ≤ a) : Gives Try.prog 65 [.t (.ag [.n 6 a])] (.v (.bool false)) :=
  fn_gives (P := Try.prog) (env := [eFCleanP]) ⟨eFCleanP_ok, trivial⟩ Try.func65 0 (oN [] [(5, 1)]) (by kernel_rfl)
      (And.intro (show ¬ flat [.q (ofP a)] = flat [.n 6 a] from fun e => by
        have h1 := limbs_inj 6 (ofP a).val a (Nat.lt_trans (ofP a).isLt (by decide)) (by simpa using ha) (by simpa [flat, Ch.cells] using e)
        have h2 := (ofP a).isLt
        rw [h1] at h2
        exact absurd h2 (Nat.not_lt.2 h)) 
      (And.intro (show smtP (.inr a) from ha) trivial))
def eFRightP : Entry := entry1 65 parN6.x (fun a => [(some (a < 39402006196394479212279040100143613805079739270465446667948293404245721771497210611414266254884915640806627990306816 ∧ a < 4002409555221667393417789825735904156556882819939007885332058136124031650490837864442687629129015664037894272559787), .v (.bool true)), (some (a < 39402006196394479212279040100143613805079739270465446667948293404245721771497210611414266254884915640806627990306816 ∧ 4002409555221667393417789825735904156556882819939007885332058136124031650490837864442687629129015664037894272559787 ≤ a), .v (.bool false))])
theorem eFRightP_ok : eFRightP.OK Try.prog := entry1_ok (fun args w => Go.Proofs.enters_of (P := Try.prog) Try.func65 (by kernel_rfl) rfl args w) (fun a c r hm hc => by
  simp only [List.mem_cons, Prod.mk.injEq, List.not_mem_nil, or_false] at hm
  rcases hm with ⟨rfl, rfl⟩ | ⟨rfl, rfl⟩
  · exact rightP_lo a hc.1 hc.2
  · exact rightP_no a hc.1 hc.2)
end Go.Proofs.Ytobgpmclgacbmaa
