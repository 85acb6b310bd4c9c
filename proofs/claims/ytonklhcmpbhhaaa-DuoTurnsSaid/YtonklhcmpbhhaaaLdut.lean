/- Whatever two numbers A + B u are given, chirographlaw05.DuoTurns says true: conjugates of sums and products. -/
import Derived.Test.YtonklhcmpbhhaaaTo2
import Derived.Test.YtonklhcmpbhhaaaAl2
import Derived.Test.YtonklhcmpbhhaaaOpn
import Derived.Test.YtonklhcmpbhhaaaRows
set_option linter.unusedSimpArgs false
set_option linter.unusedVariables false
namespace Go.Proofs.Ytonklhcmpbhhaaa
open Go.Ev Go.ChangeShapes Go.WideShapes Go.ChangeAt Go.RowKit

theorem duoTurns_gives (a : N2) (b : N2) (ha : small2 a) (hb : small2 b) : Gives Try.prog 8 [.t (.ag (n2 a)), .t (.ag (n2 b))] (.v (.bool true)) :=
  fn_gives (P := Try.prog) (env := [eAl5, eDClean, eDAdd, eDConj, eDMul, eFAddP, eFMulP]) ⟨eAl5_ok, eDClean_ok, eDAdd_ok, eDConj_ok, eDMul_ok, eFAddP_ok, eFMulP_ok, trivial⟩ Try.func8 0 (oL [(4, hdO 7), (24, hdO 48)]) (by kernel_rfl)
      (And.intro (show flat (q2 (mul2 (of2 a) (conj2 (of2 a)))) = flat [.q (((ofP a.1) * (ofP a.1)) + ((ofP a.2) * (ofP a.2))), .c (.int .u64 0), .c (.int .u64 0), .c (.int .u64 0), .c (.int .u64 0), .c (.int .u64 0), .c (.int .u64 0)] from by rw [mul_conj2]; exact flat_q0 _) 
      (And.intro (show flat (q2 (conj2 (conj2 (of2 a)))) = flat (q2 (of2 a)) from by rw [conj2_conj]) 
      (And.intro (show sm2 (.inr a) from ha) 
      (And.intro (show sm2 (.inl (conj2 (of2 a))) from trivial) 
      (And.intro (show sm2 (.inr a) from ha) 
      (And.intro (show flat (q2 (conj2 (mul2 (of2 a) (of2 b)))) = flat (q2 (mul2 (conj2 (of2 a)) (conj2 (of2 b)))) from by rw [conj2_mul]) 
      (And.intro (show sm2 (.inl (conj2 (of2 a))) ∧ sm2 (.inl (conj2 (of2 b))) from ⟨trivial, trivial⟩) 
      (And.intro (show sm2 (.inr b) from hb) 
      (And.intro (show sm2 (.inr a) from ha) 
      (And.intro (show sm2 (.inl (mul2 (of2 a) (of2 b))) from trivial) 
      (And.intro (show sm2 (.inr a) ∧ sm2 (.inr b) from ⟨ha, hb⟩) 
      (And.intro (show flat (q2 (conj2 (add2 (of2 a) (of2 b)))) = flat (q2 (add2 (conj2 (of2 a)) (conj2 (of2 b)))) from by rw [conj2_add]) 
      (And.intro (show sm2 (.inl (conj2 (of2 a))) ∧ sm2 (.inl (conj2 (of2 b))) from ⟨trivial, trivial⟩) 
      (And.intro (show sm2 (.inr b) from hb) 
      (And.intro (show sm2 (.inr a) from ha) 
      (And.intro (show sm2 (.inl (add2 (of2 a) (of2 b))) from trivial) 
      (And.intro (show sm2 (.inr a) ∧ sm2 (.inr b) from ⟨ha, hb⟩) 
      (And.intro (show smtP (.inl ((ofP a.1) * (ofP a.1))) ∧ smtP (.inl ((ofP a.2) * (ofP a.2))) from ⟨trivial, trivial⟩) 
      (And.intro (show smtP (.inr a.2) ∧ smtP (.inr a.2) from ⟨ha.2, ha.2⟩) 
      (And.intro (show smtP (.inr a.1) ∧ smtP (.inr a.1) from ⟨ha.1, ha.1⟩) 
      (And.intro (show sm2 (.inr a) ∧ sm2 (.inl (conj2 (of2 a))) from ⟨ha, trivial⟩) 
      (And.intro (show sm2 (.inr a) from ha) trivial))))))))))))))))))))))

theorem Try.own : ownKnob Try.prog.godebug = none := by kernel_rfl

set_option maxRecDepth 100000 in
theorem duoTurns_lifted (os : Os) (started : os.Started) (H : Type) (enc : TypeId × Value → H) :
    ReturnsInHanded {} Try.checked os 8 .any (Rows.duoTurnsSpec.pre6 enc Try.prog Try.f8 Rows.duoTurnsRow.domain false) (Rows.duoTurnsSpec.post enc Try.prog Try.f8 false true false false) := by
  refine returnsInHanded_of_change (C := Try.checked) Try.own started (by kernel_rfl) Try.func8
    (ChangeSpec.witness6 (enc := enc) (C := Try.checked) false ⟨#[], #[.agg (Array.replicate 12 (.int .u64 0)), .agg (Array.replicate 12 (.int .u64 0))], []⟩ 8 (by kernel_rfl) (by kernel_rfl) (by kernel_rfl) (by kernel_rfl)) ?_
  intro W base args ds gs before hval0 hW _ _
  have hval : ∀ (j : Nat) t v, Try.f8.params[j]? = some t → args[j]? = some v → Value.okWide Try.prog W .any base t v := hval0
  have hW' := hW
  obtain ⟨p, q, hA0, hV, rfl, _, _⟩ := hW
  have hA : DataW.TrodAll enc Try.prog W 0 (fun _ => true) true Try.f8.params.toList args.toList ds p := hA0
  rw [Try.params8] at hA hval
  obtain ⟨v0, v1, d0, d1, p0, p1, rfl, rfl, rfl, h0, h1⟩ := trodAll_two hA
  obtain ⟨rfl, rfl⟩ := trodVars_none hV
  obtain ⟨c0, rfl, u0, l0, rfl, s0⟩ := open_flat 8 (by kernel_rfl) (by kernel_rfl) (hval 0 _ v0 rfl rfl) h0
  obtain ⟨x0, b0, rfl⟩ := u_n2' c0 u0 (l0.trans (by kernel_rfl))
  obtain ⟨c1, rfl, u1, l1, rfl, s1⟩ := open_flat 8 (by kernel_rfl) (by kernel_rfl) (hval 1 _ v1 rfl rfl) h1
  obtain ⟨x1, b1, rfl⟩ := u_n2' c1 u1 (l1.trans (by kernel_rfl))
  clear hA0 hval0
  simp only [List.append_nil] at hW'
  obtain ⟨v, hv, hrun⟩ := duoTurns_gives x0 x1 b0 b1
  simp only [AV.val?, Option.some.injEq] at hv
  subst hv
  refine (hrun W [_, _] ⟨rfl, rfl, trivial⟩).mono fun e W' ⟨he, hb⟩ => ?_
  subst he
  exact ⟨_, rfl, _, _, _, [], [], [], hW', trodAll_mk1 (shut_bool Try.underlying4 true), trodAll_mk2 (s0 _ _ _ _) (s1 _ _ _ _), rfl, hb.frame _, fun h => by cases h⟩

theorem duoTurns_holds : Rows.DuoTurnsSaid :=
  OpenClaim.holds_of_wide 8 Try.f8 rfl rfl rfl rfl rfl rfl rfl ⟨rfl, rfl, rfl, rfl, rfl⟩ rfl rfl rfl rfl rfl (by kernel_rfl) Try.func8 (by kernel_rfl)
    (of_decide_eq_true (by kernel_rfl)) (by unfold Func.isWrapper; first | (rw [if_pos (by decide +kernel)]; kernel_rfl) | (rw [if_neg (by decide +kernel)]; exact ⟨rfl, rfl⟩))
    (fun os started H enc _ => duoTurns_lifted os started H enc)
end Go.Proofs.Ytonklhcmpbhhaaa
