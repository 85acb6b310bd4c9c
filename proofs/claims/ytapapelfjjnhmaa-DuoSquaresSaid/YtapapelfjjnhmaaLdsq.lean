/- Whatever number A + B u is given, chirographlaw05.DuoSquares says true: roots of squares. -/
import Derived.Test.YtapapelfjjnhmaaRo2
import Derived.Test.YtapapelfjjnhmaaOpn
import Derived.Test.YtapapelfjjnhmaaRows
set_option linter.unusedSimpArgs false
set_option linter.unusedVariables false
namespace Go.Proofs.Ytapapelfjjnhmaa
open Go.Ev Go.ChangeShapes Go.WideShapes Go.ChangeAt Go.RowKit

theorem small_0 : small 0 := by unfold small; decide
theorem of_0 : ofP 0 = 0 := by decide
theorem duoSquares_11 (a : N2) (ha : small2 a) (hs : sq2 (of2 a)) (hh : hi2 (of2 a)) : Gives Try.prog 6 [.t (.ag (n2 a))] (.v (.bool true)) :=
  fn_gives (P := Try.prog) (env := [eAl5, eDClean, eDHigh, eDNeg, eDMul, eDRoot, eFMulP, eFAddP, eFRootP]) ⟨eAl5_ok, eDClean_ok, eDHigh_ok, eDNeg_ok, eDMul_ok, eDRoot_ok, eFMulP_ok, eFAddP_ok, eFRootP_ok, trivial⟩ Try.func6 0 (oL [(7, wO 0)]) (by kernel_rfl)
      (And.intro (show flat (q2 (rt2 (mul2 (of2 a) (of2 a)))) = flat (q2 (neg2 (of2 a))) from by rw [rt2_of_sq, show low2 (of2 a) = (neg2 (of2 a)) from if_pos hh]) 
      (And.intro (show smtP (.inl (((ofP a.1) * (ofP a.1)) + ((ofP a.2) * (ofP a.2)))) ∧ sqP (((ofP a.1) * (ofP a.1)) + ((ofP a.2) * (ofP a.2))) from ⟨trivial, hs⟩) 
      (And.intro (show smtP (.inl ((ofP a.1) * (ofP a.1))) ∧ smtP (.inl ((ofP a.2) * (ofP a.2))) from ⟨trivial, trivial⟩) 
      (And.intro (show smtP (.inr a.2) ∧ smtP (.inr a.2) from ⟨ha.2, ha.2⟩) 
      (And.intro (show smtP (.inr a.1) ∧ smtP (.inr a.1) from ⟨ha.1, ha.1⟩) 
      (And.intro (show sm2 (.inr a) ∧ sq2 (of2 a) from ⟨ha, hs⟩) 
      (And.intro (show sm2 (.inr (a.1, 0)) ∧ sq2 (of2 (a.1, 0)) from ⟨⟨ha.1, small_0⟩, sq2_of_zero of_0⟩) 
      (And.intro (show sm2 (.inl (mul2 (of2 a) (of2 a))) ∧ sq2 (mul2 (of2 a) (of2 a)) from ⟨trivial, sq2_sq _⟩) 
      (And.intro (show sm2 (.inr a) ∧ sm2 (.inr a) from ⟨ha, ha⟩) 
      (And.intro (show sm2 (.inr a) from ha) 
      (And.intro (show sm2 (.inr a) ∧ hi2 (of2 a) from ⟨ha, hh⟩) 
      (And.intro (show sm2 (.inr a) from ha) trivial))))))))))))

theorem duoSquares_10 (a : N2) (ha : small2 a) (hs : sq2 (of2 a)) (hh : ¬ hi2 (of2 a)) : Gives Try.prog 6 [.t (.ag (n2 a))] (.v (.bool true)) :=
  fn_gives (P := Try.prog) (env := [eAl5, eDClean, eDHigh, eDNeg, eDMul, eDRoot, eFMulP, eFAddP, eFRootP]) ⟨eAl5_ok, eDClean_ok, eDHigh_ok, eDNeg_ok, eDMul_ok, eDRoot_ok, eFMulP_ok, eFAddP_ok, eFRootP_ok, trivial⟩ Try.func6 0 (oL [(7, wO 1)]) (by kernel_rfl)
      (And.intro (show flat (q2 (rt2 (mul2 (of2 a) (of2 a)))) = flat (q2 (of2 a)) from by rw [rt2_of_sq, show low2 (of2 a) = (of2 a) from if_neg hh]) 
      (And.intro (show smtP (.inl (((ofP a.1) * (ofP a.1)) + ((ofP a.2) * (ofP a.2)))) ∧ sqP (((ofP a.1) * (ofP a.1)) + ((ofP a.2) * (ofP a.2))) from ⟨trivial, hs⟩) 
      (And.intro (show smtP (.inl ((ofP a.1) * (ofP a.1))) ∧ smtP (.inl ((ofP a.2) * (ofP a.2))) from ⟨trivial, trivial⟩) 
      (And.intro (show smtP (.inr a.2) ∧ smtP (.inr a.2) from ⟨ha.2, ha.2⟩) 
      (And.intro (show smtP (.inr a.1) ∧ smtP (.inr a.1) from ⟨ha.1, ha.1⟩) 
      (And.intro (show sm2 (.inr a) ∧ sq2 (of2 a) from ⟨ha, hs⟩) 
      (And.intro (show sm2 (.inr (a.1, 0)) ∧ sq2 (of2 (a.1, 0)) from ⟨⟨ha.1, small_0⟩, sq2_of_zero of_0⟩) 
      (And.intro (show sm2 (.inl (mul2 (of2 a) (of2 a))) ∧ sq2 (mul2 (of2 a) (of2 a)) from ⟨trivial, sq2_sq _⟩) 
      (And.intro (show sm2 (.inr a) ∧ sm2 (.inr a) from ⟨ha, ha⟩) 
      (And.intro (show sm2 (.inr a) ∧ ¬ hi2 (of2 a) from ⟨ha, hh⟩) 
      (And.intro (show sm2 (.inr a) from ha) trivial)))))))))))

theorem duoSquares_01 (a : N2) (ha : small2 a) (hs : ¬ sq2 (of2 a)) (hh : hi2 (of2 a)) : Gives Try.prog 6 [.t (.ag (n2 a))] (.v (.bool true)) :=
  fn_gives (P := Try.prog) (env := [eAl5, eDClean, eDHigh, eDNeg, eDMul, eDRoot, eFMulP, eFAddP, eFRootP]) ⟨eAl5_ok, eDClean_ok, eDHigh_ok, eDNeg_ok, eDMul_ok, eDRoot_ok, eFMulP_ok, eFAddP_ok, eFRootP_ok, trivial⟩ Try.func6 0 (oL [(7, wO 0), (32, wO 1), (50, wO 1)]) (by kernel_rfl)
      (And.intro (show flat (q2 (rt2 (mul2 (of2 a) (of2 a)))) = flat (q2 (neg2 (of2 a))) from by rw [rt2_of_sq, show low2 (of2 a) = (neg2 (of2 a)) from if_pos hh]) 
      (And.intro (show smtP (.inl (((ofP a.1) * (ofP a.1)) + ((ofP a.2) * (ofP a.2)))) ∧ ¬ sqP (((ofP a.1) * (ofP a.1)) + ((ofP a.2) * (ofP a.2))) from ⟨trivial, hs⟩) 
      (And.intro (show smtP (.inl ((ofP a.1) * (ofP a.1))) ∧ smtP (.inl ((ofP a.2) * (ofP a.2))) from ⟨trivial, trivial⟩) 
      (And.intro (show smtP (.inr a.2) ∧ smtP (.inr a.2) from ⟨ha.2, ha.2⟩) 
      (And.intro (show smtP (.inr a.1) ∧ smtP (.inr a.1) from ⟨ha.1, ha.1⟩) 
      (And.intro (show sm2 (.inr a) ∧ ¬ sq2 (of2 a) from ⟨ha, hs⟩) 
      (And.intro (show sm2 (.inr (a.1, 0)) ∧ sq2 (of2 (a.1, 0)) from ⟨⟨ha.1, small_0⟩, sq2_of_zero of_0⟩) 
      (And.intro (show sm2 (.inl (mul2 (of2 a) (of2 a))) ∧ sq2 (mul2 (of2 a) (of2 a)) from ⟨trivial, sq2_sq _⟩) 
      (And.intro (show sm2 (.inr a) ∧ sm2 (.inr a) from ⟨ha, ha⟩) 
      (And.intro (show sm2 (.inr a) from ha) 
      (And.intro (show sm2 (.inr a) ∧ hi2 (of2 a) from ⟨ha, hh⟩) 
      (And.intro (show sm2 (.inr a) from ha) trivial))))))))))))

theorem duoSquares_00 (a : N2) (ha : small2 a) (hs : ¬ sq2 (of2 a)) (hh : ¬ hi2 (of2 a)) : Gives Try.prog 6 [.t (.ag (n2 a))] (.v (.bool true)) :=
  fn_gives (P := Try.prog) (env := [eAl5, eDClean, eDHigh, eDNeg, eDMul, eDRoot, eFMulP, eFAddP, eFRootP]) ⟨eAl5_ok, eDClean_ok, eDHigh_ok, eDNeg_ok, eDMul_ok, eDRoot_ok, eFMulP_ok, eFAddP_ok, eFRootP_ok, trivial⟩ Try.func6 0 (oL [(7, wO 1), (29, wO 1), (47, wO 1)]) (by kernel_rfl)
      (And.intro (show flat (q2 (rt2 (mul2 (of2 a) (of2 a)))) = flat (q2 (of2 a)) from by rw [rt2_of_sq, show low2 (of2 a) = (of2 a) from if_neg hh]) 
      (And.intro (show smtP (.inl (((ofP a.1) * (ofP a.1)) + ((ofP a.2) * (ofP a.2)))) ∧ ¬ sqP (((ofP a.1) * (ofP a.1)) + ((ofP a.2) * (ofP a.2))) from ⟨trivial, hs⟩) 
      (And.intro (show smtP (.inl ((ofP a.1) * (ofP a.1))) ∧ smtP (.inl ((ofP a.2) * (ofP a.2))) from ⟨trivial, trivial⟩) 
      (And.intro (show smtP (.inr a.2) ∧ smtP (.inr a.2) from ⟨ha.2, ha.2⟩) 
      (And.intro (show smtP (.inr a.1) ∧ smtP (.inr a.1) from ⟨ha.1, ha.1⟩) 
      (And.intro (show sm2 (.inr a) ∧ ¬ sq2 (of2 a) from ⟨ha, hs⟩) 
      (And.intro (show sm2 (.inr (a.1, 0)) ∧ sq2 (of2 (a.1, 0)) from ⟨⟨ha.1, small_0⟩, sq2_of_zero of_0⟩) 
      (And.intro (show sm2 (.inl (mul2 (of2 a) (of2 a))) ∧ sq2 (mul2 (of2 a) (of2 a)) from ⟨trivial, sq2_sq _⟩) 
      (And.intro (show sm2 (.inr a) ∧ sm2 (.inr a) from ⟨ha, ha⟩) 
      (And.intro (show sm2 (.inr a) ∧ ¬ hi2 (of2 a) from ⟨ha, hh⟩) 
      (And.intro (show sm2 (.inr a) from ha) trivial)))))))))))

theorem duoSquares_gives (a : N2) (ha : small2 a) : Gives Try.prog 6 [.t (.ag (n2 a))] (.v (.bool true)) := by
  by_cases hs : sq2 (of2 a) <;> by_cases hh : hi2 (of2 a)
  · exact duoSquares_11 a ha hs hh
  · exact duoSquares_10 a ha hs hh
  · exact duoSquares_01 a ha hs hh
  · exact duoSquares_00 a ha hs hh

theorem Try.own : ownKnob Try.prog.godebug = none := by kernel_rfl

set_option maxRecDepth 100000 in
theorem duoSquares_lifted (os : Os) (started : os.Started) (H : Type) (enc : TypeId × Value → H) :
    ReturnsInHanded {} Try.checked os 6 .any (Rows.duoSquaresSpec.pre6 enc Try.prog Try.f6 Rows.duoSquaresRow.domain false) (Rows.duoSquaresSpec.post enc Try.prog Try.f6 false true false false) := by
  refine returnsInHanded_of_change (C := Try.checked) Try.own started (by kernel_rfl) Try.func6
    (ChangeSpec.witness6 (enc := enc) (C := Try.checked) false ⟨#[], #[.agg (Array.replicate 12 (.int .u64 0))], []⟩ 8 (by kernel_rfl) (by kernel_rfl) (by kernel_rfl) (by kernel_rfl)) ?_
  intro W base args ds gs before hval0 hW _ _
  have hval : ∀ (j : Nat) t v, Try.f6.params[j]? = some t → args[j]? = some v → Value.okWide Try.prog W .any base t v := hval0
  have hW' := hW
  obtain ⟨p, q, hA0, hV, rfl, _, _⟩ := hW
  have hA : DataW.TrodAll enc Try.prog W 0 (fun _ => true) true Try.f6.params.toList args.toList ds p := hA0
  rw [Try.params6] at hA hval
  obtain ⟨v0, d0, rfl, rfl, h0⟩ := trodAll_one hA
  obtain ⟨rfl, rfl⟩ := trodVars_none hV
  obtain ⟨c0, rfl, u0, l0, rfl, s0⟩ := open_flat 8 (by kernel_rfl) (by kernel_rfl) (hval 0 _ v0 rfl rfl) h0
  obtain ⟨x0, b0, rfl⟩ := u_n2' c0 u0 (l0.trans (by kernel_rfl))
  clear hA0 hval0
  simp only [List.append_nil] at hW'
  obtain ⟨v, hv, hrun⟩ := duoSquares_gives x0 b0
  simp only [AV.val?, Option.some.injEq] at hv
  subst hv
  refine (hrun W [_] ⟨rfl, trivial⟩).mono fun e W' ⟨he, hb⟩ => ?_
  subst he
  exact ⟨_, rfl, _, _, _, [], [], [], hW', trodAll_mk1 (shut_bool Try.underlying4 true), trodAll_mk1 (s0 _ _ _ _), rfl, hb.frame _, fun h => by cases h⟩

theorem duoSquares_holds : Rows.DuoSquaresSaid :=
  OpenClaim.holds_of_wide 6 Try.f6 rfl rfl rfl rfl rfl rfl rfl ⟨rfl, rfl, rfl, rfl, rfl⟩ rfl rfl rfl rfl rfl (by kernel_rfl) Try.func6 (by kernel_rfl)
    (of_decide_eq_true (by kernel_rfl)) (by unfold Func.isWrapper; first | (rw [if_pos (by decide +kernel)]; kernel_rfl) | (rw [if_neg (by decide +kernel)]; exact ⟨rfl, rfl⟩))
    (fun os started H enc _ => duoSquares_lifted os started H enc)
end Go.Proofs.Ytapapelfjjnhmaa
