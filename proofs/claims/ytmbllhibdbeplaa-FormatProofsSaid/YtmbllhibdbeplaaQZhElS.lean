/- Pruned: ZhElS. -/
import Derived.Test.YtmbllhibdbeplaaQZhCiS
import Derived.Test.YtmbllhibdbeplaaQZhCxS
import Derived.Test.YtmbllhibdbeplaaQZhAlg
set_option linter.unusedSimpArgs false
set_option linter.unusedVariables false
namespace Go.Proofs.Ytmbllhibdbeplaa
open Go.Ev Go.RowKit

theorem ga1S {P : Program} {f : FuncId} {x x' : XV} {r : AV} (h : Gives P f [x] r) (e : ∀ w v, XRep w x' v → XRep w x v) : Gives P f [x'] r := by
  obtain ⟨v, h1, h2⟩ := h
  refine ⟨v, h1, fun w vs hx => ?_⟩
  match vs, hx with
  | [y], hx => exact h2 w [y] ⟨e _ _ hx.1, trivial⟩
theorem invS : 115792089237316195423570985008687907853269984665640564039457584007913129639936 * 12549076656233958353659347336803947287922716146853412054870763148006372261952 % 52435875175126190479447740508185965837690552500527637822603658699938581184513 = 1 % 52435875175126190479447740508185965837690552500527637822603658699938581184513 := by decide
theorem toS_lt (x : Fin Rr) : toS x < 52435875175126190479447740508185965837690552500527637822603658699938581184513 := Nat.mod_lt _ (by decide)
theorem inS (a : Nat) (ha : a < 115792089237316195423570985008687907853269984665640564039457584007913129639936) : Gives Try.prog 90 [.t (.ag [.n 4 a])] (.ag [.s (ofR a)]) := by
  obtain ⟨v, h1, h2, h3⟩ := inSN a ha
  have e : v = toS (ofR a) := mont_in (m := 52435875175126190479447740508185965837690552500527637822603658699938581184513) (R := 115792089237316195423570985008687907853269984665640564039457584007913129639936) invS h1 h2
  refine h3.same ?_
  exact ag_same rfl rfl (by simp only [flat, Ch.cells, e])
theorem outS (x : Fin Rr) : Gives Try.prog 91 [.t (.ag [.s x])] (.ag [.e x]) := by
  obtain ⟨v, h1, h2, h3⟩ := outSN (toS x) (Nat.lt_trans (toS_lt x) (by decide))
  have e : v = x.val := mont_out (m := 52435875175126190479447740508185965837690552500527637822603658699938581184513) (R := 115792089237316195423570985008687907853269984665640564039457584007913129639936) invS x.isLt h1 h2
  have h := ga1S (x' := .t (.ag [.s x])) h3 (fun _ _ h => h)
  refine h.same ?_
  exact ag_same rfl rfl (by simp only [flat, Ch.cells, e])

def eOutS : Entry := entry1 91 parS.x (fun x => [(none, .ag [.e x])])
theorem eOutS_ok : eOutS.OK Try.prog := entry1_ok (fun args w => Go.Proofs.enters_of (P := Try.prog) Try.func91 (by kernel_rfl) rfl args w) (fun x => only (outS x))

end Go.Proofs.Ytmbllhibdbeplaa
