/- Contracts of core's S on elements: sums, differences, products, negatives, small ones, the way in and out. -/
import Derived.Test.YtoahfmgdlpgjoaaCiS
import Derived.Test.YtoahfmgdlpgjoaaCxS
import Derived.Test.YtoahfmgdlpgjoaaAlg
set_option linter.unusedSimpArgs false
set_option linter.unusedVariables false
namespace Go.Proofs.Ytoahfmgdlpgjoaa
open Go.Ev Go.RowKit

theorem ga1S {P : Program} {f : FuncId} {x x' : XV} {r : AV} (h : Gives P f [x] r) (e : ∀ w v, XRep w x' v → XRep w x v) : Gives P f [x'] r := by
  obtain ⟨v, h1, h2⟩ := h
  refine ⟨v, h1, fun w vs hx => ?_⟩
  match vs, hx with
  | [y], hx => exact h2 w [y] ⟨e _ _ hx.1, trivial⟩
theorem ga2S {P : Program} {f : FuncId} {x x' y y' : XV} {r : AV} (h : Gives P f [x, y] r) (e : ∀ w v, XRep w x' v → XRep w x v) (e' : ∀ w v, XRep w y' v → XRep w y v) : Gives P f [x', y'] r := by
  obtain ⟨v, h1, h2⟩ := h
  refine ⟨v, h1, fun w vs hx => ?_⟩
  match vs, hx with
  | [p, q], hx => exact h2 w [p, q] ⟨e _ _ hx.1, e' _ _ hx.2.1, trivial⟩

theorem invS : 115792089237316195423570985008687907853269984665640564039457584007913129639936 * 12549076656233958353659347336803947287922716146853412054870763148006372261952 % 52435875175126190479447740508185965837690552500527637822603658699938581184513 = 1 % 52435875175126190479447740508185965837690552500527637822603658699938581184513 := by decide
theorem toS_lt (x : Fin Rr) : toS x < 52435875175126190479447740508185965837690552500527637822603658699938581184513 := Nat.mod_lt _ (by decide)
theorem toS_add (x y : Fin Rr) : toS (x + y) = (toS x + toS y) % 52435875175126190479447740508185965837690552500527637822603658699938581184513 := by
  unfold toS
  rw [Fin.val_add]
  exact (mont_add (m := 52435875175126190479447740508185965837690552500527637822603658699938581184513) (R := 115792089237316195423570985008687907853269984665640564039457584007913129639936) x.val y.val).symm
theorem toS_sub (x y : Fin Rr) : toS (x - y) = (toS x + (52435875175126190479447740508185965837690552500527637822603658699938581184513 - toS y)) % 52435875175126190479447740508185965837690552500527637822603658699938581184513 := by
  unfold toS
  rw [Fin.sub_def]
  exact (mont_sub (m := 52435875175126190479447740508185965837690552500527637822603658699938581184513) (R := 115792089237316195423570985008687907853269984665640564039457584007913129639936) (by decide) y.isLt).symm
theorem toS_mul (x y : Fin Rr) {v : Nat} (hv : v < 52435875175126190479447740508185965837690552500527637822603658699938581184513) (h : (v * 115792089237316195423570985008687907853269984665640564039457584007913129639936) % 52435875175126190479447740508185965837690552500527637822603658699938581184513 = (toS x * toS y) % 52435875175126190479447740508185965837690552500527637822603658699938581184513) : v = toS (x * y) := by
  have := mont_mul (m := 52435875175126190479447740508185965837690552500527637822603658699938581184513) (R := 115792089237316195423570985008687907853269984665640564039457584007913129639936) (x := x.val) (y := y.val) invS hv h
  rw [this]
  unfold toS
  rw [Fin.val_mul]
  rfl

theorem plusS (x y : Fin Rr) : Gives Try.prog 45 [.t (.ag [.s x]), .t (.ag [.s y])] (.ag [.s (x + y)]) := by
  have h := ga2S (x' := .t (.ag [.s x])) (y' := .t (.ag [.s y])) (plusSN (toS x) (toS y) (toS_lt x) (toS_lt y)) (fun _ _ h => h) (fun _ _ h => h)
  refine h.same ?_
  exact ag_same rfl rfl (by simp only [flat, Ch.cells, toS_add])
theorem minusS (x y : Fin Rr) : Gives Try.prog 76 [.t (.ag [.s x]), .t (.ag [.s y])] (.ag [.s (x - y)]) := by
  have h := ga2S (x' := .t (.ag [.s x])) (y' := .t (.ag [.s y])) (minusSN (toS x) (toS y) (toS_lt x) (toS_lt y)) (fun _ _ h => h) (fun _ _ h => h)
  refine h.same ?_
  exact ag_same rfl rfl (by simp only [flat, Ch.cells, toS_sub])
theorem timesS (x y : Fin Rr) : Gives Try.prog 44 [.t (.ag [.s x]), .t (.ag [.s y])] (.ag [.s (x * y)]) := by
  obtain ⟨v, h1, h2, h3⟩ := timesSN (toS x) (toS y) (Nat.lt_trans (toS_lt x) (by decide)) (Nat.le_of_lt (toS_lt y))
  have e := toS_mul x y h1 h2
  have h := ga2S (x' := .t (.ag [.s x])) (y' := .t (.ag [.s y])) h3 (fun _ _ h => h) (fun _ _ h => h)
  refine h.same ?_
  exact ag_same rfl rfl (by simp only [flat, Ch.cells, e])
theorem inS (a : Nat) (ha : a < 115792089237316195423570985008687907853269984665640564039457584007913129639936) : Gives Try.prog 48 [.t (.ag [.n 4 a])] (.ag [.s (ofR a)]) := by
  obtain ⟨v, h1, h2, h3⟩ := inSN a ha
  have e : v = toS (ofR a) := mont_in (m := 52435875175126190479447740508185965837690552500527637822603658699938581184513) (R := 115792089237316195423570985008687907853269984665640564039457584007913129639936) invS h1 h2
  refine h3.same ?_
  exact ag_same rfl rfl (by simp only [flat, Ch.cells, e])
theorem outS (x : Fin Rr) : Gives Try.prog 46 [.t (.ag [.s x])] (.ag [.e x]) := by
  obtain ⟨v, h1, h2, h3⟩ := outSN (toS x) (Nat.lt_trans (toS_lt x) (by decide))
  have e : v = x.val := mont_out (m := 52435875175126190479447740508185965837690552500527637822603658699938581184513) (R := 115792089237316195423570985008687907853269984665640564039457584007913129639936) invS x.isLt h1 h2
  have h := ga1S (x' := .t (.ag [.s x])) h3 (fun _ _ h => h)
  refine h.same ?_
  exact ag_same rfl rfl (by simp only [flat, Ch.cells, e])

def ePlusS : Entry := entry2 45 parS.x parS.x (fun x y => [(none, .ag [.s (x + y)])])
theorem ePlusS_ok : ePlusS.OK Try.prog := entry2_ok (fun args w => Go.Proofs.enters_of (P := Try.prog) Try.func45 (by kernel_rfl) rfl args w) (fun x y => only (plusS x y))
def eMinusS : Entry := entry2 76 parS.x parS.x (fun x y => [(none, .ag [.s (x - y)])])
theorem eMinusS_ok : eMinusS.OK Try.prog := entry2_ok (fun args w => Go.Proofs.enters_of (P := Try.prog) Try.func76 (by kernel_rfl) rfl args w) (fun x y => only (minusS x y))
def eTimesS : Entry := entry2 44 parS.x parS.x (fun x y => [(none, .ag [.s (x * y)])])
theorem eTimesS_ok : eTimesS.OK Try.prog := entry2_ok (fun args w => Go.Proofs.enters_of (P := Try.prog) Try.func44 (by kernel_rfl) rfl args w) (fun x y => only (timesS x y))
def eInS : Entry := entry1 48 parN4.x (fun a => [(some (a < 115792089237316195423570985008687907853269984665640564039457584007913129639936), .ag [.s (ofR a)])])
theorem eInS_ok : eInS.OK Try.prog := entry1_ok (fun args w => Go.Proofs.enters_of (P := Try.prog) Try.func48 (by kernel_rfl) rfl args w) (fun u c r hm hc => by
  simp only [List.mem_singleton, Prod.mk.injEq] at hm
  obtain ⟨rfl, rfl⟩ := hm
  exact inS u hc)
def eOutS : Entry := entry1 46 parS.x (fun x => [(none, .ag [.e x])])
theorem eOutS_ok : eOutS.OK Try.prog := entry1_ok (fun args w => Go.Proofs.enters_of (P := Try.prog) Try.func46 (by kernel_rfl) rfl args w) (fun x => only (outS x))

theorem negS (x : Fin Rr) : Gives Try.prog 73 [.t (.ag [.s x])] (.ag [.s (-x)]) :=
  (fn_gives (P := Try.prog) (env := [eMinusS]) ⟨eMinusS_ok, trivial⟩ Try.func73 0 o0 (r := .ag [.s (0 - x)]) (by kernel_rfl) trivial).same (by rw [show -x = 0 - x from by grind])
def eNegS : Entry := entry1 73 parS.x (fun x => [(none, .ag [.s (-x)])])
theorem eNegS_ok : eNegS.OK Try.prog := entry1_ok (fun args w => Go.Proofs.enters_of (P := Try.prog) Try.func73 (by kernel_rfl) rfl args w) (fun x => only (negS x))
end Go.Proofs.Ytoahfmgdlpgjoaa
