/- Whatever three numbers are given, chirographlaw03.FrField says true: the laws of a field. -/
import Derived.Test.YtjhnoekljlldmaaPwS
import Derived.Test.YtjhnoekljlldmaaPri
import Derived.Test.YtjhnoekljlldmaaRiS
import Derived.Test.YtjhnoekljlldmaaOpn
import Derived.Test.YtjhnoekljlldmaaRows
set_option linter.unusedSimpArgs false
set_option linter.unusedVariables false
namespace Go.Proofs.Ytjhnoekljlldmaa
open Go.Ev Go.ChangeShapes Go.WideShapes Go.ChangeAt Go.RowKit

theorem ofR_0 : ofR 0 = 0 := by decide
theorem ofR_1 : ofR (1 : Int).toNat = 1 := by decide
theorem frField_z (a b c : Nat) (ha : a < 115792089237316195423570985008687907853269984665640564039457584007913129639936) (hb : b < 115792089237316195423570985008687907853269984665640564039457584007913129639936) (hc : c < 115792089237316195423570985008687907853269984665640564039457584007913129639936) (h : (ofR a) = 0) : Gives Try.prog 12 [.t (.ag [.n 4 a]), .t (.ag [.n 4 b]), .t (.ag [.n 4 c])] (.v (.bool true)) :=
  fn_gives (P := Try.prog) (env := [eAlS, eFCleanS, eFSmallS, eFAddS, eFMulS, eFSubS, eFNegS, eFInvS, eFRightS]) ⟨eAlS_ok, eFCleanS_ok, eFSmallS_ok, eFAddS_ok, eFMulS_ok, eFSubS_ok, eFNegS_ok, eFInvS_ok, eFRightS_ok, trivial⟩ Try.func12 0 (oL [(13, hdO 74), (87, hdO 33), (120, hdO 36)]) (by kernel_rfl)
      (And.intro (show ((ofR a) * (ofR b)).val < 115792089237316195423570985008687907853269984665640564039457584007913129639936 ∧ ((ofR a) * (ofR b)).val < 52435875175126190479447740508185965837690552500527637822603658699938581184513 from ⟨Nat.lt_trans ((ofR a) * (ofR b)).isLt (by decide), ((ofR a) * (ofR b)).isLt⟩) 
      (And.intro (show smtS (.inr a) ∧ smtS (.inr b) from ⟨ha, hb⟩) 
      (And.intro (show ((ofR a) + (ofR b)).val < 115792089237316195423570985008687907853269984665640564039457584007913129639936 ∧ ((ofR a) + (ofR b)).val < 52435875175126190479447740508185965837690552500527637822603658699938581184513 from ⟨Nat.lt_trans ((ofR a) + (ofR b)).isLt (by decide), ((ofR a) + (ofR b)).isLt⟩) 
      (And.intro (show smtS (.inr a) ∧ smtS (.inr b) from ⟨ha, hb⟩) 
      (And.intro (show flat [.e (pwS (ofR a) 52435875175126190479447740508185965837690552500527637822603658699938581184511)] = flat [.e (ofR a)] from by rw [h, inv_zeroS]) 
      (And.intro (show smtS (.inr a) from ha) 
      (And.intro (show flat [.e (ofR a)] = flat [.c (.int .u64 0), .c (.int .u64 0), .c (.int .u64 0), .c (.int .u64 0)] from by rw [h]; kernel_rfl) 
      (And.intro (show flat [.e (((ofR a) + (ofR b)) - (ofR b))] = flat [.e (ofR a)] from by rw [show (((ofR a) + (ofR b)) - (ofR b)) = (ofR a) from by grind]) 
      (And.intro (show smtS (.inl ((ofR a) + (ofR b))) ∧ smtS (.inr b) from ⟨trivial, hb⟩) 
      (And.intro (show smtS (.inr a) ∧ smtS (.inr b) from ⟨ha, hb⟩) 
      (And.intro (show flat [.e ((ofR a) + (-(ofR a)))] = flat [.c (.int .u64 0), .c (.int .u64 0), .c (.int .u64 0), .c (.int .u64 0)] from by rw [show ((ofR a) + (-(ofR a))) = 0 from by grind]; kernel_rfl) 
      (And.intro (show smtS (.inr a) ∧ smtS (.inl (-(ofR a))) from ⟨ha, trivial⟩) 
      (And.intro (show smtS (.inr a) from ha) 
      (And.intro (show flat [.e ((ofR a) * (ofR (1 : Int).toNat))] = flat [.e (ofR a)] from by rw [ofR_1, show (ofR a) * 1 = (ofR a) from by grind]) 
      (And.intro (show smtS (.inr a) ∧ smtS (.inl (ofR (1 : Int).toNat)) from ⟨ha, trivial⟩) 
      (And.intro (show flat [.e ((ofR a) + (ofR 0))] = flat [.e (ofR a)] from by rw [ofR_0, show (ofR a) + 0 = (ofR a) from by grind]) 
      (And.intro (show smtS (.inr a) ∧ smtS (.inr 0) from ⟨ha, (by unfold smtS smS; decide)⟩) 
      (And.intro (show flat [.e ((ofR a) * ((ofR b) + (ofR c)))] = flat [.e (((ofR a) * (ofR b)) + ((ofR a) * (ofR c)))] from by rw [show ((ofR a) * ((ofR b) + (ofR c))) = (((ofR a) * (ofR b)) + ((ofR a) * (ofR c))) from by grind]) 
      (And.intro (show smtS (.inl ((ofR a) * (ofR b))) ∧ smtS (.inl ((ofR a) * (ofR c))) from ⟨trivial, trivial⟩) 
      (And.intro (show smtS (.inr a) ∧ smtS (.inr c) from ⟨ha, hc⟩) 
      (And.intro (show smtS (.inr a) ∧ smtS (.inr b) from ⟨ha, hb⟩) 
      (And.intro (show smtS (.inr a) ∧ smtS (.inl ((ofR b) + (ofR c))) from ⟨ha, trivial⟩) 
      (And.intro (show smtS (.inr b) ∧ smtS (.inr c) from ⟨hb, hc⟩) 
      (And.intro (show flat [.e (((ofR a) * (ofR b)) * (ofR c))] = flat [.e ((ofR a) * ((ofR b) * (ofR c)))] from by rw [show (((ofR a) * (ofR b)) * (ofR c)) = ((ofR a) * ((ofR b) * (ofR c))) from by grind]) 
      (And.intro (show smtS (.inr a) ∧ smtS (.inl ((ofR b) * (ofR c))) from ⟨ha, trivial⟩) 
      (And.intro (show smtS (.inr b) ∧ smtS (.inr c) from ⟨hb, hc⟩) 
      (And.intro (show smtS (.inl ((ofR a) * (ofR b))) ∧ smtS (.inr c) from ⟨trivial, hc⟩) 
      (And.intro (show smtS (.inr a) ∧ smtS (.inr b) from ⟨ha, hb⟩) 
      (And.intro (show flat [.e (((ofR a) + (ofR b)) + (ofR c))] = flat [.e ((ofR a) + ((ofR b) + (ofR c)))] from by rw [show (((ofR a) + (ofR b)) + (ofR c)) = ((ofR a) + ((ofR b) + (ofR c))) from by grind]) 
      (And.intro (show smtS (.inr a) ∧ smtS (.inl ((ofR b) + (ofR c))) from ⟨ha, trivial⟩) 
      (And.intro (show smtS (.inr b) ∧ smtS (.inr c) from ⟨hb, hc⟩) 
      (And.intro (show smtS (.inl ((ofR a) + (ofR b))) ∧ smtS (.inr c) from ⟨trivial, hc⟩) 
      (And.intro (show smtS (.inr a) ∧ smtS (.inr b) from ⟨ha, hb⟩) 
      (And.intro (show flat [.e ((ofR a) * (ofR b))] = flat [.e ((ofR b) * (ofR a))] from by rw [show ((ofR a) * (ofR b)) = ((ofR b) * (ofR a)) from by grind]) 
      (And.intro (show smtS (.inr b) ∧ smtS (.inr a) from ⟨hb, ha⟩) 
      (And.intro (show smtS (.inr a) ∧ smtS (.inr b) from ⟨ha, hb⟩) 
      (And.intro (show flat [.e ((ofR a) + (ofR b))] = flat [.e ((ofR b) + (ofR a))] from by rw [show ((ofR a) + (ofR b)) = ((ofR b) + (ofR a)) from by grind]) 
      (And.intro (show smtS (.inr b) ∧ smtS (.inr a) from ⟨hb, ha⟩) 
      (And.intro (show smtS (.inr a) ∧ smtS (.inr b) from ⟨ha, hb⟩) 
      (And.intro (show (0 : Int) ≤ 1 ∧ (1 : Int) < 9223372036854775808 from by decide) 
      (And.intro (show smtS (.inr a) from ha) trivial)))))))))))))))))))))))))))))))))))))))))

theorem frField_n (a b c : Nat) (ha : a < 115792089237316195423570985008687907853269984665640564039457584007913129639936) (hb : b < 115792089237316195423570985008687907853269984665640564039457584007913129639936) (hc : c < 115792089237316195423570985008687907853269984665640564039457584007913129639936) (h : (ofR a) ≠ 0) : Gives Try.prog 12 [.t (.ag [.n 4 a]), .t (.ag [.n 4 b]), .t (.ag [.n 4 c])] (.v (.bool true)) :=
  fn_gives (P := Try.prog) (env := [eAlS, eFCleanS, eFSmallS, eFAddS, eFMulS, eFSubS, eFNegS, eFInvS, eFRightS]) ⟨eAlS_ok, eFCleanS_ok, eFSmallS_ok, eFAddS_ok, eFMulS_ok, eFSubS_ok, eFNegS_ok, eFInvS_ok, eFRightS_ok, trivial⟩ Try.func12 0 (oL [(124, wO 1), (13, hdO 74), (87, hdO 33), (120, hdO 36)]) (by kernel_rfl)
      (And.intro (show ((ofR a) * (ofR b)).val < 115792089237316195423570985008687907853269984665640564039457584007913129639936 ∧ ((ofR a) * (ofR b)).val < 52435875175126190479447740508185965837690552500527637822603658699938581184513 from ⟨Nat.lt_trans ((ofR a) * (ofR b)).isLt (by decide), ((ofR a) * (ofR b)).isLt⟩) 
      (And.intro (show smtS (.inr a) ∧ smtS (.inr b) from ⟨ha, hb⟩) 
      (And.intro (show ((ofR a) + (ofR b)).val < 115792089237316195423570985008687907853269984665640564039457584007913129639936 ∧ ((ofR a) + (ofR b)).val < 52435875175126190479447740508185965837690552500527637822603658699938581184513 from ⟨Nat.lt_trans ((ofR a) + (ofR b)).isLt (by decide), ((ofR a) + (ofR b)).isLt⟩) 
      (And.intro (show smtS (.inr a) ∧ smtS (.inr b) from ⟨ha, hb⟩) 
      (And.intro (show flat [.e ((ofR a) * (pwS (ofR a) 52435875175126190479447740508185965837690552500527637822603658699938581184511))] = flat [.e (ofR (1 : Int).toNat)] from by rw [mul_invS h, ofR_1]) 
      (And.intro (show smtS (.inr a) ∧ smtS (.inl (pwS (ofR a) 52435875175126190479447740508185965837690552500527637822603658699938581184511)) from ⟨ha, trivial⟩) 
      (And.intro (show smtS (.inr a) from ha) 
      (And.intro (show ¬ flat [.e (ofR a)] = flat [.c (.int .u64 0), .c (.int .u64 0), .c (.int .u64 0), .c (.int .u64 0)] from ne_zerosS h) 
      (And.intro (show flat [.e (((ofR a) + (ofR b)) - (ofR b))] = flat [.e (ofR a)] from by rw [show (((ofR a) + (ofR b)) - (ofR b)) = (ofR a) from by grind]) 
      (And.intro (show smtS (.inl ((ofR a) + (ofR b))) ∧ smtS (.inr b) from ⟨trivial, hb⟩) 
      (And.intro (show smtS (.inr a) ∧ smtS (.inr b) from ⟨ha, hb⟩) 
      (And.intro (show flat [.e ((ofR a) + (-(ofR a)))] = flat [.c (.int .u64 0), .c (.int .u64 0), .c (.int .u64 0), .c (.int .u64 0)] from by rw [show ((ofR a) + (-(ofR a))) = 0 from by grind]; kernel_rfl) 
      (And.intro (show smtS (.inr a) ∧ smtS (.inl (-(ofR a))) from ⟨ha, trivial⟩) 
      (And.intro (show smtS (.inr a) from ha) 
      (And.intro (show flat [.e ((ofR a) * (ofR (1 : Int).toNat))] = flat [.e (ofR a)] from by rw [ofR_1, show (ofR a) * 1 = (ofR a) from by grind]) 
      (And.intro (show smtS (.inr a) ∧ smtS (.inl (ofR (1 : Int).toNat)) from ⟨ha, trivial⟩) 
      (And.intro (show flat [.e ((ofR a) + (ofR 0))] = flat [.e (ofR a)] from by rw [ofR_0, show (ofR a) + 0 = (ofR a) from by grind]) 
      (And.intro (show smtS (.inr a) ∧ smtS (.inr 0) from ⟨ha, (by unfold smtS smS; decide)⟩) 
      (And.intro (show flat [.e ((ofR a) * ((ofR b) + (ofR c)))] = flat [.e (((ofR a) * (ofR b)) + ((ofR a) * (ofR c)))] from by rw [show ((ofR a) * ((ofR b) + (ofR c))) = (((ofR a) * (ofR b)) + ((ofR a) * (ofR c))) from by grind]) 
      (And.intro (show smtS (.inl ((ofR a) * (ofR b))) ∧ smtS (.inl ((ofR a) * (ofR c))) from ⟨trivial, trivial⟩) 
      (And.intro (show smtS (.inr a) ∧ smtS (.inr c) from ⟨ha, hc⟩) 
      (And.intro (show smtS (.inr a) ∧ smtS (.inr b) from ⟨ha, hb⟩) 
      (And.intro (show smtS (.inr a) ∧ smtS (.inl ((ofR b) + (ofR c))) from ⟨ha, trivial⟩) 
      (And.intro (show smtS (.inr b) ∧ smtS (.inr c) from ⟨hb, hc⟩) 
      (And.intro (show flat [.e (((ofR a) * (ofR b)) * (ofR c))] = flat [.e ((ofR a) * ((ofR b) * (ofR c)))] from by rw [show (((ofR a) * (ofR b)) * (ofR c)) = ((ofR a) * ((ofR b) * (ofR c))) from by grind]) 
      (And.intro (show smtS (.inr a) ∧ smtS (.inl ((ofR b) * (ofR c))) from ⟨ha, trivial⟩) 
      (And.intro (show smtS (.inr b) ∧ smtS (.inr c) from ⟨hb, hc⟩) 
      (And.intro (show smtS (.inl ((ofR a) * (ofR b))) ∧ smtS (.inr c) from ⟨trivial, hc⟩) 
      (And.intro (show smtS (.inr a) ∧ smtS (.inr b) from ⟨ha, hb⟩) 
      (And.intro (show flat [.e (((ofR a) + (ofR b)) + (ofR c))] = flat [.e ((ofR a) + ((ofR b) + (ofR c)))] from by rw [show (((ofR a) + (ofR b)) + (ofR c)) = ((ofR a) + ((ofR b) + (ofR c))) from by grind]) 
      (And.intro (show smtS (.inr a) ∧ smtS (.inl ((ofR b) + (ofR c))) from ⟨ha, trivial⟩) 
      (And.intro (show smtS (.inr b) ∧ smtS (.inr c) from ⟨hb, hc⟩) 
      (And.intro (show smtS (.inl ((ofR a) + (ofR b))) ∧ smtS (.inr c) from ⟨trivial, hc⟩) 
      (And.intro (show smtS (.inr a) ∧ smtS (.inr b) from ⟨ha, hb⟩) 
      (And.intro (show flat [.e ((ofR a) * (ofR b))] = flat [.e ((ofR b) * (ofR a))] from by rw [show ((ofR a) * (ofR b)) = ((ofR b) * (ofR a)) from by grind]) 
      (And.intro (show smtS (.inr b) ∧ smtS (.inr a) from ⟨hb, ha⟩) 
      (And.intro (show smtS (.inr a) ∧ smtS (.inr b) from ⟨ha, hb⟩) 
      (And.intro (show flat [.e ((ofR a) + (ofR b))] = flat [.e ((ofR b) + (ofR a))] from by rw [show ((ofR a) + (ofR b)) = ((ofR b) + (ofR a)) from by grind]) 
      (And.intro (show smtS (.inr b) ∧ smtS (.inr a) from ⟨hb, ha⟩) 
      (And.intro (show smtS (.inr a) ∧ smtS (.inr b) from ⟨ha, hb⟩) 
      (And.intro (show (0 : Int) ≤ 1 ∧ (1 : Int) < 9223372036854775808 from by decide) 
      (And.intro (show smtS (.inr a) from ha) trivial))))))))))))))))))))))))))))))))))))))))))

theorem frField_gives (a b c : Nat) (ha : a < 115792089237316195423570985008687907853269984665640564039457584007913129639936) (hb : b < 115792089237316195423570985008687907853269984665640564039457584007913129639936) (hc : c < 115792089237316195423570985008687907853269984665640564039457584007913129639936) : Gives Try.prog 12 [.t (.ag [.n 4 a]), .t (.ag [.n 4 b]), .t (.ag [.n 4 c])] (.v (.bool true)) := by
  by_cases h : ofR a = 0
  · exact frField_z a b c ha hb hc h
  · exact frField_n a b c ha hb hc h

theorem Try.own : ownKnob Try.prog.godebug = none := by kernel_rfl

set_option maxRecDepth 100000 in
theorem frField_lifted (os : Os) (started : os.Started) (H : Type) (enc : TypeId × Value → H) :
    ReturnsInHanded {} Try.checked os 12 .any (Rows.frFieldSpec.pre6 enc Try.prog Try.f12 Rows.frFieldRow.domain false) (Rows.frFieldSpec.post enc Try.prog Try.f12 false true false false) := by
  refine returnsInHanded_of_change (C := Try.checked) Try.own started (by kernel_rfl) Try.func12
    (ChangeSpec.witness6 (enc := enc) (C := Try.checked) false ⟨#[], #[.agg (Array.replicate 4 (.int .u64 0)), .agg (Array.replicate 4 (.int .u64 0)), .agg (Array.replicate 4 (.int .u64 0))], []⟩ 8 (by kernel_rfl) (by kernel_rfl) (by kernel_rfl) (by kernel_rfl)) ?_
  intro W base args ds gs before hval0 hW _ _
  have hval : ∀ (j : Nat) t v, Try.f12.params[j]? = some t → args[j]? = some v → Value.okWide Try.prog W .any base t v := hval0
  have hW' := hW
  obtain ⟨p, q, hA0, hV, rfl, _, _⟩ := hW
  have hA : DataW.TrodAll enc Try.prog W 0 (fun _ => true) true Try.f12.params.toList args.toList ds p := hA0
  rw [Try.params12] at hA hval
  obtain ⟨v0, v1, v2, d0, d1, d2, p0, p1, p2, rfl, rfl, rfl, h0, h1, h2⟩ := trodAll_three hA
  obtain ⟨rfl, rfl⟩ := trodVars_none hV
  obtain ⟨c0, rfl, u0, l0, rfl, s0⟩ := open_flat 8 (by kernel_rfl) (by kernel_rfl) (hval 0 _ v0 rfl rfl) h0
  obtain ⟨x0, b0, rfl⟩ := u_limbs 4 c0 u0 (l0.trans (by kernel_rfl))
  replace b0 := Nat.lt_of_lt_of_eq b0 (show _ = 115792089237316195423570985008687907853269984665640564039457584007913129639936 from rfl)
  obtain ⟨c1, rfl, u1, l1, rfl, s1⟩ := open_flat 8 (by kernel_rfl) (by kernel_rfl) (hval 1 _ v1 rfl rfl) h1
  obtain ⟨x1, b1, rfl⟩ := u_limbs 4 c1 u1 (l1.trans (by kernel_rfl))
  replace b1 := Nat.lt_of_lt_of_eq b1 (show _ = 115792089237316195423570985008687907853269984665640564039457584007913129639936 from rfl)
  obtain ⟨c2, rfl, u2, l2, rfl, s2⟩ := open_flat 8 (by kernel_rfl) (by kernel_rfl) (hval 2 _ v2 rfl rfl) h2
  obtain ⟨x2, b2, rfl⟩ := u_limbs 4 c2 u2 (l2.trans (by kernel_rfl))
  replace b2 := Nat.lt_of_lt_of_eq b2 (show _ = 115792089237316195423570985008687907853269984665640564039457584007913129639936 from rfl)
  clear hA0 hval0
  simp only [List.append_nil] at hW'
  obtain ⟨v, hv, hrun⟩ := frField_gives x0 x1 x2 b0 b1 b2
  simp only [AV.val?, Option.some.injEq] at hv
  subst hv
  refine (hrun W [_, _, _] ⟨rfl, rfl, rfl, trivial⟩).mono fun e W' ⟨he, hb⟩ => ?_
  subst he
  exact ⟨_, rfl, _, _, _, [], [], [], hW', trodAll_mk1 (shut_bool Try.underlying4 true), trodAll_mk3 (s0 _ _ _ _) (s1 _ _ _ _) (s2 _ _ _ _), rfl, hb.frame _, fun h => by cases h⟩

theorem frField_holds : Rows.FrFieldSaid :=
  OpenClaim.holds_of_wide 12 Try.f12 rfl rfl rfl rfl rfl rfl rfl ⟨rfl, rfl, rfl, rfl, rfl⟩ rfl rfl rfl rfl rfl (by kernel_rfl) Try.func12 (by kernel_rfl)
    (of_decide_eq_true (by kernel_rfl)) (by unfold Func.isWrapper; first | (rw [if_pos (by decide +kernel)]; kernel_rfl) | (rw [if_neg (by decide +kernel)]; exact ⟨rfl, rfl⟩))
    (fun os started H enc _ => frField_lifted os started H enc)
end Go.Proofs.Ytjhnoekljlldmaa
