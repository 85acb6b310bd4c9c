/- Whatever two numbers are given, chirographlaw03.FrMuls says true: the product and the inverse are as the document says. -/
import Derived.Test.YtjhnoekljlldmaaPwS
import Derived.Test.YtjhnoekljlldmaaPri
import Derived.Test.YtjhnoekljlldmaaRmS
import Derived.Test.YtjhnoekljlldmaaOpn
import Derived.Test.YtjhnoekljlldmaaRows
set_option linter.unusedSimpArgs false
set_option linter.unusedVariables false
namespace Go.Proofs.Ytjhnoekljlldmaa
open Go.Ev Go.ChangeShapes Go.WideShapes Go.ChangeAt Go.RowKit

theorem inv_orS (x : Fin Rr) : (x = 0 ∧ pwS x 52435875175126190479447740508185965837690552500527637822603658699938581184511 = 0) ∨ (x ≠ 0 ∧ x * pwS x 52435875175126190479447740508185965837690552500527637822603658699938581184511 = 1) := by
  by_cases h : x = 0
  · exact .inl ⟨h, by rw [h, inv_zeroS]⟩
  · exact .inr ⟨h, mul_invS h⟩
theorem frMuls_gives (a b : Nat) (ha : a < 115792089237316195423570985008687907853269984665640564039457584007913129639936) (hb : b < 115792089237316195423570985008687907853269984665640564039457584007913129639936) : Gives Try.prog 11 [.t (.ag [.n 4 a]), .t (.ag [.n 4 b])] (.v (.bool true)) :=
  fn_gives (P := Try.prog) (env := [eAlS, eFMulS, eMulSr, eFInvS, eIsInvS, eCleanS]) ⟨eAlS_ok, eFMulS_ok, eMulSr_ok, eFInvS_ok, eIsInvS_ok, eCleanS_ok, trivial⟩ Try.func11 0 o0 (by kernel_rfl)
      (And.intro (show ((ofR a) = 0 ∧ (pwS (ofR a) 52435875175126190479447740508185965837690552500527637822603658699938581184511) = 0) ∨ ((ofR a) ≠ 0 ∧ (ofR a) * (pwS (ofR a) 52435875175126190479447740508185965837690552500527637822603658699938581184511) = 1) from inv_orS (ofR a)) 
      (And.intro (show smtS (.inr a) from ha) 
      (And.intro (show flat [.e ((ofR a) * (ofR b))] = flat [.e ((ofR a) * (ofR b))] from rfl) 
      (And.intro (show smtS (.inr a) ∧ smtS (.inr b) from ⟨ha, hb⟩) 
      (And.intro (show b < 115792089237316195423570985008687907853269984665640564039457584007913129639936 from hb) 
      (And.intro (show a < 115792089237316195423570985008687907853269984665640564039457584007913129639936 from ha) trivial))))))

theorem Try.own : ownKnob Try.prog.godebug = none := by kernel_rfl

set_option maxRecDepth 100000 in
theorem frMuls_lifted (os : Os) (started : os.Started) (H : Type) (enc : TypeId × Value → H) :
    ReturnsInHanded {} Try.checked os 11 .any (Rows.frMulsSpec.pre6 enc Try.prog Try.f11 Rows.frMulsRow.domain false) (Rows.frMulsSpec.post enc Try.prog Try.f11 false true false false) := by
  refine returnsInHanded_of_change (C := Try.checked) Try.own started (by kernel_rfl) Try.func11
    (ChangeSpec.witness6 (enc := enc) (C := Try.checked) false ⟨#[], #[.agg (Array.replicate 4 (.int .u64 0)), .agg (Array.replicate 4 (.int .u64 0))], []⟩ 8 (by kernel_rfl) (by kernel_rfl) (by kernel_rfl) (by kernel_rfl)) ?_
  intro W base args ds gs before hval0 hW _ _
  have hval : ∀ (j : Nat) t v, Try.f11.params[j]? = some t → args[j]? = some v → Value.okWide Try.prog W .any base t v := hval0
  have hW' := hW
  obtain ⟨p, q, hA0, hV, rfl, _, _⟩ := hW
  have hA : DataW.TrodAll enc Try.prog W 0 (fun _ => true) true Try.f11.params.toList args.toList ds p := hA0
  rw [Try.params11] at hA hval
  obtain ⟨v0, v1, d0, d1, p0, p1, rfl, rfl, rfl, h0, h1⟩ := trodAll_two hA
  obtain ⟨rfl, rfl⟩ := trodVars_none hV
  obtain ⟨c0, rfl, u0, l0, rfl, s0⟩ := open_flat 8 (by kernel_rfl) (by kernel_rfl) (hval 0 _ v0 rfl rfl) h0
  obtain ⟨x0, b0, rfl⟩ := u_limbs 4 c0 u0 (l0.trans (by kernel_rfl))
  replace b0 := Nat.lt_of_lt_of_eq b0 (show _ = 115792089237316195423570985008687907853269984665640564039457584007913129639936 from rfl)
  obtain ⟨c1, rfl, u1, l1, rfl, s1⟩ := open_flat 8 (by kernel_rfl) (by kernel_rfl) (hval 1 _ v1 rfl rfl) h1
  obtain ⟨x1, b1, rfl⟩ := u_limbs 4 c1 u1 (l1.trans (by kernel_rfl))
  replace b1 := Nat.lt_of_lt_of_eq b1 (show _ = 115792089237316195423570985008687907853269984665640564039457584007913129639936 from rfl)
  clear hA0 hval0
  simp only [List.append_nil] at hW'
  obtain ⟨v, hv, hrun⟩ := frMuls_gives x0 x1 b0 b1
  simp only [AV.val?, Option.some.injEq] at hv
  subst hv
  refine (hrun W [_, _] ⟨rfl, rfl, trivial⟩).mono fun e W' ⟨he, hb⟩ => ?_
  subst he
  exact ⟨_, rfl, _, _, _, [], [], [], hW', trodAll_mk1 (shut_bool Try.underlying4 true), trodAll_mk2 (s0 _ _ _ _) (s1 _ _ _ _), rfl, hb.frame _, fun h => by cases h⟩

theorem frMuls_holds : Rows.FrMulsSaid :=
  OpenClaim.holds_of_wide 11 Try.f11 rfl rfl rfl rfl rfl rfl rfl ⟨rfl, rfl, rfl, rfl, rfl⟩ rfl rfl rfl rfl rfl (by kernel_rfl) Try.func11 (by kernel_rfl)
    (of_decide_eq_true (by kernel_rfl)) (by unfold Func.isWrapper; first | (rw [if_pos (by decide +kernel)]; kernel_rfl) | (rw [if_neg (by decide +kernel)]; exact ⟨rfl, rfl⟩))
    (fun os started H enc _ => frMuls_lifted os started H enc)
end Go.Proofs.Ytjhnoekljlldmaa
