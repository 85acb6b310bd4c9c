/- Contracts of the reference of the field of order r on elements, and of the layer fr: remainders, sums, differences, negatives, products. -/
import Derived.Test.YtoahfmgdlpgjoaaRaS
import Derived.Test.YtoahfmgdlpgjoaaInS
set_option linter.unusedSimpArgs false
set_option linter.unusedVariables false
namespace Go.Proofs.Ytoahfmgdlpgjoaa
open Go.Ev Go.RowKit

def clSI (y : Nat) : LState := { n := 11, sl := [(1, .p 0 0), (2, .p 1 0)], hp := [(0, .own [.n 4 y] 34), (1, .own [.c (.int .u64 0), .c (.int .u64 0), .c (.int .u64 0), .c (.int .u64 0)] 34)] }
def clSZ (x : Fin Rr) : LState := { n := 11, sl := [(1, .p 0 0), (2, .p 1 0)], hp := [(0, .own [.e x] 34), (1, .own [.c (.int .u64 0), .c (.int .u64 0), .c (.int .u64 0), .c (.int .u64 0)] 34)] }
theorem clS_loop (a : Nat) (y : { y : Nat // y < 115792089237316195423570985008687907853269984665640564039457584007913129639936 ∧ y % 52435875175126190479447740508185965837690552500527637822603658699938581184513 = a % 52435875175126190479447740508185965837690552500527637822603658699938581184513 }) : Sound Try.prog 0 false (.loop (loopB Try.f22 0)) (clSI y.val).aa (.exit 0) (clSZ (ofR a)).aa := by
  refine loop_ok (m := fun y : { y : Nat // y < 115792089237316195423570985008687907853269984665640564039457584007913129639936 ∧ y % 52435875175126190479447740508185965837690552500527637822603658699938581184513 = a % 52435875175126190479447740508185965837690552500527637822603658699938581184513 } => y.val) (fun y => clSI y.val) (by simp) (fun y => ?_) y
  obtain ⟨y, hy, hm⟩ := y
  by_cases h : y < 52435875175126190479447740508185965837690552500527637822603658699938581184513
  · refine .inr ?_
    have hs := roundR_sound (P := Try.prog) (X := rules0) (env := [eLessS, eRRS, eminusS]) ⟨eLessS_ok, eRRS_ok, eminusS_ok, trivial⟩ (n := 0) (os := oN [] [(12, 0)]) (fb := 0) (rd := false) (c := loopB Try.f22 0) (k := 10) (I := clSI y) (sk := [1, 2]) (hk := [0, 1]) (ex := .exit 0) (L := clSI y) (by kernel_rfl)
      (And.intro (show y < 115792089237316195423570985008687907853269984665640564039457584007913129639936 ∧ 52435875175126190479447740508185965837690552500527637822603658699938581184513 < 115792089237316195423570985008687907853269984665640564039457584007913129639936 ∧ y < 52435875175126190479447740508185965837690552500527637822603658699938581184513 from ⟨hy, by decide, h⟩) trivial)
    refine hs.post [] (by kernel_rfl) ⟨And.intro (And.intro rfl rfl) (And.intro (And.intro rfl rfl) trivial), And.intro (And.intro rfl (show flat [.n 4 y] = flat [.e (ofR a)] from ?_)) (And.intro (And.intro rfl rfl) trivial)⟩
    have : (ofR a).val = y := by show a % 52435875175126190479447740508185965837690552500527637822603658699938581184513 = y; rw [← hm, Nat.mod_eq_of_lt h]
    simp only [flat, Ch.cells, this]
  · refine .inl ⟨⟨y - 52435875175126190479447740508185965837690552500527637822603658699938581184513, by omega, by omega⟩, by simp only []; omega, ?_⟩
    have hs := roundR_sound (P := Try.prog) (X := rules0) (env := [eLessS, eRRS, eminusS]) ⟨eLessS_ok, eRRS_ok, eminusS_ok, trivial⟩ (n := 0) (os := oN [] [(12, 1)]) (fb := 0) (rd := false) (c := loopB Try.f22 0) (k := 10) (I := clSI y) (sk := [1, 2]) (hk := [0, 1]) (ex := .normal) (L := clSI ((y + 115792089237316195423570985008687907853269984665640564039457584007913129639936 - 52435875175126190479447740508185965837690552500527637822603658699938581184513) % 115792089237316195423570985008687907853269984665640564039457584007913129639936)) (by kernel_rfl)
      (And.intro (show y < 115792089237316195423570985008687907853269984665640564039457584007913129639936 ∧ 52435875175126190479447740508185965837690552500527637822603658699938581184513 < 115792089237316195423570985008687907853269984665640564039457584007913129639936 from ⟨hy, by decide⟩) (And.intro (show y < 115792089237316195423570985008687907853269984665640564039457584007913129639936 ∧ 52435875175126190479447740508185965837690552500527637822603658699938581184513 < 115792089237316195423570985008687907853269984665640564039457584007913129639936 ∧ 52435875175126190479447740508185965837690552500527637822603658699938581184513 ≤ y from ⟨hy, by decide, Nat.le_of_not_lt h⟩) trivial))
    rw [show (y + 115792089237316195423570985008687907853269984665640564039457584007913129639936 - 52435875175126190479447740508185965837690552500527637822603658699938581184513) % 115792089237316195423570985008687907853269984665640564039457584007913129639936 = y - 52435875175126190479447740508185965837690552500527637822603658699938581184513 by omega] at hs
    exact hs
theorem cleanS (a : Nat) (ha : a < 115792089237316195423570985008687907853269984665640564039457584007913129639936) : Gives Try.prog 22 [.t (.ag [.n 4 a])] (.ag [.e (ofR a)]) :=
  fn_gives (P := Try.prog) (env := []) trivial Try.func22 0 (oL [(2, lpO { I := clSI a, ex := .exit 0, E := clSZ (ofR a), fr := 3 })]) (by kernel_rfl)
    (And.intro (show some (clSI a) = some (clSI a) from rfl) (And.intro (show Sound Try.prog 0 false (.loop (loopB Try.f22 0)) (clSI a).aa (.exit 0) (clSZ (ofR a)).aa from clS_loop a ⟨a, ha, rfl⟩) trivial))
def eCleanS : Entry := entry1 22 parN4.x (fun a => [(some (a < 115792089237316195423570985008687907853269984665640564039457584007913129639936), .ag [.e (ofR a)])])
theorem eCleanS_ok : eCleanS.OK Try.prog := entry1_ok (fun args w => Go.Proofs.enters_of (P := Try.prog) Try.func22 (by kernel_rfl) rfl args w) (fun a => onlyIf (fun h => cleanS a h))
theorem addS (x y : Fin Rr) : Gives Try.prog 47 [.t (.ag [.e x]), .t (.ag [.e y])] (.ag [.e (x + y)]) :=
  (fn_gives (P := Try.prog) (env := [eplusS, eCleanS]) ⟨eplusS_ok, eCleanS_ok, trivial⟩ Try.func47 0 o0 (r := .ag [.e (ofR ((x.val + y.val) % 115792089237316195423570985008687907853269984665640564039457584007913129639936))]) (by kernel_rfl)
    (And.intro (show (x.val + y.val) % 115792089237316195423570985008687907853269984665640564039457584007913129639936 < 115792089237316195423570985008687907853269984665640564039457584007913129639936 from Nat.mod_lt _ (by decide)) (And.intro (show x.val < 115792089237316195423570985008687907853269984665640564039457584007913129639936 ∧ y.val < 115792089237316195423570985008687907853269984665640564039457584007913129639936 from ⟨Nat.lt_trans x.isLt (by decide), Nat.lt_trans y.isLt (by decide)⟩) trivial))).same (by
      have h1 := x.isLt; have h2 := y.isLt; simp only [Rr] at h1 h2
      rw [show ofR ((x.val + y.val) % 115792089237316195423570985008687907853269984665640564039457584007913129639936) = x + y from Fin.ext (by rw [Fin.val_add]; show (x.val + y.val) % 115792089237316195423570985008687907853269984665640564039457584007913129639936 % 52435875175126190479447740508185965837690552500527637822603658699938581184513 = _; rw [Nat.mod_eq_of_lt (show x.val + y.val < 115792089237316195423570985008687907853269984665640564039457584007913129639936 by omega)]; rfl)])
def eAddS : Entry := entry2 47 parE.x parE.x (fun x y => [(none, .ag [.e (x + y)])])
theorem eAddS_ok : eAddS.OK Try.prog := entry2_ok (fun args w => Go.Proofs.enters_of (P := Try.prog) Try.func47 (by kernel_rfl) rfl args w) (fun x y => only (addS x y))
theorem ne_zerosS {x : Fin Rr} (h : x ≠ 0) : ¬ flat [.e x] = flat [.c (.int .u64 0), .c (.int .u64 0), .c (.int .u64 0), .c (.int .u64 0)] := fun e => h (by
  have := limbs_inj 4 x.val 0 (Nat.lt_trans x.isLt (by decide)) (by decide) (by simpa [flat, Ch.cells, limbs] using e)
  exact Fin.ext this)
def eFAddS : Entry := entry2 41 par1S par1S (fun a b => [(some (smtS a ∧ smtS b), .ag [.e ((eltS a) + (eltS b))])])
theorem eFAddS_ok : eFAddS.OK Try.prog := entry2_ok (fun args w => Go.Proofs.enters_of (P := Try.prog) Try.func41 (by kernel_rfl) rfl args w) (fun a b => match a, b with
  | .inl a, .inl b => onlyIf (fun h => fn_gives (P := Try.prog) (env := [eInSq, eOutS, ePlusS]) ⟨eInSq_ok, eOutS_ok, ePlusS_ok, trivial⟩ Try.func41 1 o0 (by kernel_rfl) trivial)
  | .inl a, .inr b => onlyIf (fun h => fn_gives (P := Try.prog) (env := [eInSq, eOutS, ePlusS]) ⟨eInSq_ok, eOutS_ok, ePlusS_ok, trivial⟩ Try.func41 1 o0 (by kernel_rfl) (And.intro h.2 trivial))
  | .inr a, .inl b => onlyIf (fun h => fn_gives (P := Try.prog) (env := [eInSq, eOutS, ePlusS]) ⟨eInSq_ok, eOutS_ok, ePlusS_ok, trivial⟩ Try.func41 1 o0 (by kernel_rfl) (And.intro h.1 trivial))
  | .inr a, .inr b => onlyIf (fun h => fn_gives (P := Try.prog) (env := [eInSq, eOutS, ePlusS]) ⟨eInSq_ok, eOutS_ok, ePlusS_ok, trivial⟩ Try.func41 1 o0 (by kernel_rfl) (And.intro h.2 (And.intro h.1 trivial))))
def eFCleanS : Entry := entry1 25 par1S (fun a => [(some (smtS a), .ag [.e (eltS a)])])
theorem eFCleanS_ok : eFCleanS.OK Try.prog := entry1_ok (fun args w => Go.Proofs.enters_of (P := Try.prog) Try.func25 (by kernel_rfl) rfl args w) (fun a => match a with
  | .inl a => onlyIf (fun h => fn_gives (P := Try.prog) (env := [eInSq, eOutS]) ⟨eInSq_ok, eOutS_ok, trivial⟩ Try.func25 1 o0 (by kernel_rfl) trivial)
  | .inr a => onlyIf (fun h => fn_gives (P := Try.prog) (env := [eInSq, eOutS]) ⟨eInSq_ok, eOutS_ok, trivial⟩ Try.func25 1 o0 (by kernel_rfl) (And.intro h trivial)))
def eAlS : Entry := entry0 19 [(none, .v (.bool true))]
theorem eAlS_ok : eAlS.OK Try.prog := entry0_ok (fun args w => Go.Proofs.enters_of (P := Try.prog) Try.func19 (by kernel_rfl) rfl args w) (only (fn_gives (P := Try.prog) (env := [eFAddS]) ⟨eFAddS_ok, trivial⟩ Try.func19 0 o0 (r := .v (.bool true)) (by kernel_rfl)
    (And.intro (show flat [.e (ofR 1 + ofR 1)] = flat [.c (.int .u64 2), .c (.int .u64 0), .c (.int .u64 0), .c (.int .u64 0)] from by kernel_rfl) (And.intro (show smtS (.inr 1) ∧ smtS (.inr 1) from ⟨by unfold smtS smS; decide, by unfold smtS smS; decide⟩) trivial))))
end Go.Proofs.Ytoahfmgdlpgjoaa
