/- Whatever numbers are given, chirographlaw03.FrRights says true: which are elements, what one is modulo r, what a small one is. -/
import Derived.Test.YtjhnoekljlldmaaRcS
import Derived.Test.YtjhnoekljlldmaaOpn
import Derived.Test.YtjhnoekljlldmaaRows
set_option linter.unusedSimpArgs false
set_option linter.unusedVariables false
namespace Go.Proofs.Ytjhnoekljlldmaa
open Go.Ev Go.ChangeShapes Go.WideShapes Go.ChangeAt Go.RowKit

theorem rightS_lo (a : Nat) (ha : a < 115792089237316195423570985008687907853269984665640564039457584007913129639936) (h : a < 52435875175126190479447740508185965837690552500527637822603658699938581184513) : Gives Try.prog 26 [.t (.ag [.n 4 a])] (.v (.bool true)) :=
  fn_gives (P := Try.prog) (env := [eCmpS, eRS]) ⟨eCmpS_ok, eRS_ok, trivial⟩ Try.func26 0 (oN [] [(7, 0)]) (by kernel_rfl)
      (And.intro (show a < 115792089237316195423570985008687907853269984665640564039457584007913129639936 ∧ 52435875175126190479447740508185965837690552500527637822603658699938581184513 < 115792089237316195423570985008687907853269984665640564039457584007913129639936 ∧ a < 52435875175126190479447740508185965837690552500527637822603658699938581184513 from ⟨ha, by decide, h⟩) trivial)
theorem rightS_eq (a : Nat) (ha : a < 115792089237316195423570985008687907853269984665640564039457584007913129639936) (h : a = 52435875175126190479447740508185965837690552500527637822603658699938581184513) : Gives Try.prog 26 [.t (.ag [.n 4 a])] (.v (.bool false)) :=
  fn_gives (P := Try.prog) (env := [eCmpS, eRS]) ⟨eCmpS_ok, eRS_ok, trivial⟩ Try.func26 0 (oN [] [(7, 1)]) (by kernel_rfl)
      (And.intro (show a < 115792089237316195423570985008687907853269984665640564039457584007913129639936 ∧ 52435875175126190479447740508185965837690552500527637822603658699938581184513 < 115792089237316195423570985008687907853269984665640564039457584007913129639936 ∧ a = 52435875175126190479447740508185965837690552500527637822603658699938581184513 from ⟨ha, by decide, h⟩) trivial)
theorem rightS_hi (a : Nat) (ha : a < 115792089237316195423570985008687907853269984665640564039457584007913129639936) (h : 52435875175126190479447740508185965837690552500527637822603658699938581184513 < a) : Gives Try.prog 26 [.t (.ag [.n 4 a])] (.v (.bool false)) :=
  fn_gives (P := Try.prog) (env := [eCmpS, eRS]) ⟨eCmpS_ok, eRS_ok, trivial⟩ Try.func26 0 (oN [] [(7, 2)]) (by kernel_rfl)
      (And.intro (show a < 115792089237316195423570985008687907853269984665640564039457584007913129639936 ∧ 52435875175126190479447740508185965837690552500527637822603658699938581184513 < 115792089237316195423570985008687907853269984665640564039457584007913129639936 ∧ 52435875175126190479447740508185965837690552500527637822603658699938581184513 < a from ⟨ha, by decide, h⟩) trivial)
theorem rightS_no (a : Nat) (ha : a < 115792089237316195423570985008687907853269984665640564039457584007913129639936) (h : 52435875175126190479447740508185965837690552500527637822603658699938581184513 ≤ a) : Gives Try.prog 26 [.t (.ag [.n 4 a])] (.v (.bool false)) := by
  rcases Nat.lt_or_eq_of_le h with h | h
  · exact rightS_hi a ha h
  · exact rightS_eq a ha h.symm
def eFRightS : Entry := entry1 26 parN4.x (fun a => [(some (a < 115792089237316195423570985008687907853269984665640564039457584007913129639936 ∧ a < 52435875175126190479447740508185965837690552500527637822603658699938581184513), .v (.bool true)), (some (a < 115792089237316195423570985008687907853269984665640564039457584007913129639936 ∧ 52435875175126190479447740508185965837690552500527637822603658699938581184513 ≤ a), .v (.bool false))])
theorem eFRightS_ok : eFRightS.OK Try.prog := entry1_ok (fun args w => Go.Proofs.enters_of (P := Try.prog) Try.func26 (by kernel_rfl) rfl args w) (fun a c r hm hc => by
  simp only [List.mem_cons, Prod.mk.injEq, List.not_mem_nil, or_false] at hm
  rcases hm with ⟨rfl, rfl⟩ | ⟨rfl, rfl⟩
  · exact rightS_lo a hc.1 hc.2
  · exact rightS_no a hc.1 hc.2)
theorem frRights_11 (a : Nat) (n : Int) (ha : a < 115792089237316195423570985008687907853269984665640564039457584007913129639936) (h1 : n < 9223372036854775808) (h2 : -9223372036854775808 ≤ n) (h : a < 52435875175126190479447740508185965837690552500527637822603658699938581184513) (hn : 0 ≤ n) : Gives Try.prog 6 [.t (.ag [.n 4 a]), .t (.v (.int .i64 n))] (.v (.bool true)) :=
  fn_gives (P := Try.prog) (env := [eAlS, eFRightS, eLessS, eRRS, eFCleanS, eCleanS, eFSmallS, eSmallSr]) ⟨eAlS_ok, eFRightS_ok, eLessS_ok, eRRS_ok, eFCleanS_ok, eCleanS_ok, eFSmallS_ok, eSmallSr_ok, trivial⟩ Try.func6 0 (oN [] [(5, 0), (8, 0), (20, 0), (22, 0)]) (by kernel_rfl)
      (And.intro (show flat [.e (ofR n.toNat)] = flat [.e (ofR n.toNat)] from rfl) 
      (And.intro (show 0 ≤ n ∧ n < 9223372036854775808 from ⟨hn, h1⟩) 
      (And.intro (show 0 ≤ n ∧ n < 9223372036854775808 from ⟨hn, h1⟩) 
      (And.intro (show flat [.e (ofR a)] = flat [.e (ofR a)] from rfl) 
      (And.intro (show a < 115792089237316195423570985008687907853269984665640564039457584007913129639936 from ha) 
      (And.intro (show smtS (.inr a) from ha) 
      (And.intro (show a < 115792089237316195423570985008687907853269984665640564039457584007913129639936 ∧ 52435875175126190479447740508185965837690552500527637822603658699938581184513 < 115792089237316195423570985008687907853269984665640564039457584007913129639936 ∧ a < 52435875175126190479447740508185965837690552500527637822603658699938581184513 from ⟨ha, by decide, h⟩) 
      (And.intro (show a < 115792089237316195423570985008687907853269984665640564039457584007913129639936 ∧ a < 52435875175126190479447740508185965837690552500527637822603658699938581184513 from ⟨ha, h⟩) trivial))))))))
theorem frRights_10 (a : Nat) (n : Int) (ha : a < 115792089237316195423570985008687907853269984665640564039457584007913129639936) (h1 : n < 9223372036854775808) (h2 : -9223372036854775808 ≤ n) (h : a < 52435875175126190479447740508185965837690552500527637822603658699938581184513) (hn : n < 0) : Gives Try.prog 6 [.t (.ag [.n 4 a]), .t (.v (.int .i64 n))] (.v (.bool true)) :=
  fn_gives (P := Try.prog) (env := [eAlS, eFRightS, eLessS, eRRS, eFCleanS, eCleanS, eFSmallS, eSmallSr]) ⟨eAlS_ok, eFRightS_ok, eLessS_ok, eRRS_ok, eFCleanS_ok, eCleanS_ok, eFSmallS_ok, eSmallSr_ok, trivial⟩ Try.func6 0 (oN [] [(5, 0), (8, 0), (20, 1), (22, 1)]) (by kernel_rfl)
      (And.intro (show flat [.e (-(ofR (-n).toNat))] = flat [.e (-(ofR (-n).toNat))] from rfl) 
      (And.intro (show n < 0 ∧ -9223372036854775808 ≤ n from ⟨hn, h2⟩) 
      (And.intro (show n < 0 ∧ -9223372036854775808 ≤ n from ⟨hn, h2⟩) 
      (And.intro (show flat [.e (ofR a)] = flat [.e (ofR a)] from rfl) 
      (And.intro (show a < 115792089237316195423570985008687907853269984665640564039457584007913129639936 from ha) 
      (And.intro (show smtS (.inr a) from ha) 
      (And.intro (show a < 115792089237316195423570985008687907853269984665640564039457584007913129639936 ∧ 52435875175126190479447740508185965837690552500527637822603658699938581184513 < 115792089237316195423570985008687907853269984665640564039457584007913129639936 ∧ a < 52435875175126190479447740508185965837690552500527637822603658699938581184513 from ⟨ha, by decide, h⟩) 
      (And.intro (show a < 115792089237316195423570985008687907853269984665640564039457584007913129639936 ∧ a < 52435875175126190479447740508185965837690552500527637822603658699938581184513 from ⟨ha, h⟩) trivial))))))))
theorem frRights_01 (a : Nat) (n : Int) (ha : a < 115792089237316195423570985008687907853269984665640564039457584007913129639936) (h1 : n < 9223372036854775808) (h2 : -9223372036854775808 ≤ n) (h : 52435875175126190479447740508185965837690552500527637822603658699938581184513 ≤ a) (hn : 0 ≤ n) : Gives Try.prog 6 [.t (.ag [.n 4 a]), .t (.v (.int .i64 n))] (.v (.bool true)) :=
  fn_gives (P := Try.prog) (env := [eAlS, eFRightS, eLessS, eRRS, eFCleanS, eCleanS, eFSmallS, eSmallSr]) ⟨eAlS_ok, eFRightS_ok, eLessS_ok, eRRS_ok, eFCleanS_ok, eCleanS_ok, eFSmallS_ok, eSmallSr_ok, trivial⟩ Try.func6 0 (oN [] [(5, 1), (8, 1), (20, 0), (22, 0)]) (by kernel_rfl)
      (And.intro (show flat [.e (ofR n.toNat)] = flat [.e (ofR n.toNat)] from rfl) 
      (And.intro (show 0 ≤ n ∧ n < 9223372036854775808 from ⟨hn, h1⟩) 
      (And.intro (show 0 ≤ n ∧ n < 9223372036854775808 from ⟨hn, h1⟩) 
      (And.intro (show flat [.e (ofR a)] = flat [.e (ofR a)] from rfl) 
      (And.intro (show a < 115792089237316195423570985008687907853269984665640564039457584007913129639936 from ha) 
      (And.intro (show smtS (.inr a) from ha) 
      (And.intro (show a < 115792089237316195423570985008687907853269984665640564039457584007913129639936 ∧ 52435875175126190479447740508185965837690552500527637822603658699938581184513 < 115792089237316195423570985008687907853269984665640564039457584007913129639936 ∧ 52435875175126190479447740508185965837690552500527637822603658699938581184513 ≤ a from ⟨ha, by decide, h⟩) 
      (And.intro (show a < 115792089237316195423570985008687907853269984665640564039457584007913129639936 ∧ 52435875175126190479447740508185965837690552500527637822603658699938581184513 ≤ a from ⟨ha, h⟩) trivial))))))))
theorem frRights_00 (a : Nat) (n : Int) (ha : a < 115792089237316195423570985008687907853269984665640564039457584007913129639936) (h1 : n < 9223372036854775808) (h2 : -9223372036854775808 ≤ n) (h : 52435875175126190479447740508185965837690552500527637822603658699938581184513 ≤ a) (hn : n < 0) : Gives Try.prog 6 [.t (.ag [.n 4 a]), .t (.v (.int .i64 n))] (.v (.bool true)) :=
  fn_gives (P := Try.prog) (env := [eAlS, eFRightS, eLessS, eRRS, eFCleanS, eCleanS, eFSmallS, eSmallSr]) ⟨eAlS_ok, eFRightS_ok, eLessS_ok, eRRS_ok, eFCleanS_ok, eCleanS_ok, eFSmallS_ok, eSmallSr_ok, trivial⟩ Try.func6 0 (oN [] [(5, 1), (8, 1), (20, 1), (22, 1)]) (by kernel_rfl)
      (And.intro (show flat [.e (-(ofR (-n).toNat))] = flat [.e (-(ofR (-n).toNat))] from rfl) 
      (And.intro (show n < 0 ∧ -9223372036854775808 ≤ n from ⟨hn, h2⟩) 
      (And.intro (show n < 0 ∧ -9223372036854775808 ≤ n from ⟨hn, h2⟩) 
      (And.intro (show flat [.e (ofR a)] = flat [.e (ofR a)] from rfl) 
      (And.intro (show a < 115792089237316195423570985008687907853269984665640564039457584007913129639936 from ha) 
      (And.intro (show smtS (.inr a) from ha) 
      (And.intro (show a < 115792089237316195423570985008687907853269984665640564039457584007913129639936 ∧ 52435875175126190479447740508185965837690552500527637822603658699938581184513 < 115792089237316195423570985008687907853269984665640564039457584007913129639936 ∧ 52435875175126190479447740508185965837690552500527637822603658699938581184513 ≤ a from ⟨ha, by decide, h⟩) 
      (And.intro (show a < 115792089237316195423570985008687907853269984665640564039457584007913129639936 ∧ 52435875175126190479447740508185965837690552500527637822603658699938581184513 ≤ a from ⟨ha, h⟩) trivial))))))))
theorem frRights_gives (a : Nat) (n : Int) (ha : a < 115792089237316195423570985008687907853269984665640564039457584007913129639936) (hn : (Lit.int .i64 n).wf = true) : Gives Try.prog 6 [.t (.ag [.n 4 a]), .t (.v (.int .i64 n))] (.v (.bool true)) := by
  have hb := bounds_i64 hn
  by_cases h : a < 52435875175126190479447740508185965837690552500527637822603658699938581184513 <;> by_cases h0 : 0 ≤ n
  · exact frRights_11 a n ha (by omega) (by omega) h h0
  · exact frRights_10 a n ha (by omega) (by omega) h (by omega)
  · exact frRights_01 a n ha (by omega) (by omega) (Nat.le_of_not_lt h) h0
  · exact frRights_00 a n ha (by omega) (by omega) (Nat.le_of_not_lt h) (by omega)

theorem Try.own : ownKnob Try.prog.godebug = none := by kernel_rfl

set_option maxRecDepth 100000 in
theorem frRights_lifted (os : Os) (started : os.Started) (H : Type) (enc : TypeId × Value → H) :
    ReturnsInHanded {} Try.checked os 6 .any (Rows.frRightsSpec.pre6 enc Try.prog Try.f6 Rows.frRightsRow.domain false) (Rows.frRightsSpec.post enc Try.prog Try.f6 false true false false) := by
  refine returnsInHanded_of_change (C := Try.checked) Try.own started (by kernel_rfl) Try.func6
    (ChangeSpec.witness6 (enc := enc) (C := Try.checked) false ⟨#[], #[.agg (Array.replicate 4 (.int .u64 0)), .int .i64 0], []⟩ 8 (by kernel_rfl) (by kernel_rfl) (by kernel_rfl) (by kernel_rfl)) ?_
  intro W base args ds gs before hval0 hW _ _
  have hval : ∀ (j : Nat) t v, Try.f6.params[j]? = some t → args[j]? = some v → Value.okWide Try.prog W .any base t v := hval0
  have hW' := hW
  obtain ⟨p, q, hA0, hV, rfl, _, _⟩ := hW
  have hA : DataW.TrodAll enc Try.prog W 0 (fun _ => true) true Try.f6.params.toList args.toList ds p := hA0
  rw [Try.params6] at hA hval
  obtain ⟨v0, v1, d0, d1, p0, p1, rfl, rfl, rfl, h0, h1⟩ := trodAll_two hA
  obtain ⟨rfl, rfl⟩ := trodVars_none hV
  obtain ⟨c0, rfl, u0, l0, rfl, s0⟩ := open_flat 8 (by kernel_rfl) (by kernel_rfl) (hval 0 _ v0 rfl rfl) h0
  obtain ⟨x0, b0, rfl⟩ := u_limbs 4 c0 u0 (l0.trans (by kernel_rfl))
  replace b0 := Nat.lt_of_lt_of_eq b0 (show _ = 115792089237316195423570985008687907853269984665640564039457584007913129639936 from rfl)
  obtain ⟨x1, rfl, rfl, rfl, b1⟩ := open_int (k := .i64) Try.underlying2 (hval 1 _ v1 rfl rfl) h1
  clear hA0 hval0
  simp only [List.append_nil] at hW'
  obtain ⟨v, hv, hrun⟩ := frRights_gives x0 x1 b0 b1
  simp only [AV.val?, Option.some.injEq] at hv
  subst hv
  refine (hrun W [_, _] ⟨rfl, rfl, trivial⟩).mono fun e W' ⟨he, hb⟩ => ?_
  subst he
  exact ⟨_, rfl, _, _, _, [], [], [], hW', trodAll_mk1 (shut_bool Try.underlying4 true), trodAll_mk2 (s0 _ _ _ _) (shut_int Try.underlying2 b1), rfl, hb.frame _, fun h => by cases h⟩

theorem frRights_holds : Rows.FrRightsSaid :=
  OpenClaim.holds_of_wide 6 Try.f6 rfl rfl rfl rfl rfl rfl rfl ⟨rfl, rfl, rfl, rfl, rfl⟩ rfl rfl rfl rfl rfl (by kernel_rfl) Try.func6 (by kernel_rfl)
    (of_decide_eq_true (by kernel_rfl)) (by unfold Func.isWrapper; first | (rw [if_pos (by decide +kernel)]; kernel_rfl) | (rw [if_neg (by decide +kernel)]; exact ⟨rfl, rfl⟩))
    (fun os started H enc _ => frRights_lifted os started H enc)
end Go.Proofs.Ytjhnoekljlldmaa
