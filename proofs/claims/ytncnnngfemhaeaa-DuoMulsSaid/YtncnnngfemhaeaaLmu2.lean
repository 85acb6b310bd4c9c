/- Whatever two numbers A + B u are given, chirographlaw05.DuoMuls says true: products and inverses are as the document says. -/
import Derived.Test.YtncnnngfemhaeaaTo3
import Derived.Test.YtncnnngfemhaeaaRt
import Derived.Test.YtncnnngfemhaeaaOpn
import Derived.Test.YtncnnngfemhaeaaRows
set_option linter.unusedSimpArgs false
set_option linter.unusedVariables false
namespace Go.Proofs.Ytncnnngfemhaeaa
open Go.Ev Go.ChangeShapes Go.WideShapes Go.ChangeAt Go.RowKit

theorem inv_or2 (x : F2) : (x = (0, 0) ∧ inv2 x = (0, 0)) ∨ (x ≠ (0, 0) ∧ mul2 x (inv2 x) = one2) := by
  by_cases h : x = (0, 0)
  · exact .inl ⟨h, by rw [h, inv2_zero]⟩
  · exact .inr ⟨h, inv2_mul h⟩
theorem duoMuls_gives (a : N2) (b : N2) (ha : small2 a) (hb : small2 b) : Gives Try.prog 6 [.t (.ag (n2 a)), .t (.ag (n2 b))] (.v (.bool true)) :=
  fn_gives (P := Try.prog) (env := [eAl5, eDMul, eDInv, eClean2, eMul2r, eIsInv2]) ⟨eAl5_ok, eDMul_ok, eDInv_ok, eClean2_ok, eMul2r_ok, eIsInv2_ok, trivial⟩ Try.func6 0 (o0) (by kernel_rfl)
      (And.intro (show ((of2 a) = (0, 0) ∧ (inv2 (of2 a)) = (0, 0)) ∨ ((of2 a) ≠ (0, 0) ∧ mul2 (of2 a) (inv2 (of2 a)) = one2) from inv_or2 (of2 a)) 
      (And.intro (show sm2 (.inr a) from ha) 
      (And.intro (show flat (q2 (mul2 (of2 a) (of2 b))) = flat (q2 (mul2 (of2 a) (of2 b))) from rfl) 
      (And.intro (show sm2 (.inr a) ∧ sm2 (.inr b) from ⟨ha, hb⟩) 
      (And.intro (show small2 b from hb) 
      (And.intro (show small2 a from ha) trivial))))))

theorem Try.own : ownKnob Try.prog.godebug = none := by kernel_rfl

set_option maxRecDepth 100000 in
theorem duoMuls_lifted (os : Os) (started : os.Started) (H : Type) (enc : TypeId × Value → H) :
    ReturnsInHanded {} Try.checked os 6 .any (Rows.duoMulsSpec.pre6 enc Try.prog Try.f6 Rows.duoMulsRow.domain false) (Rows.duoMulsSpec.post enc Try.prog Try.f6 false true false false) := by
  refine returnsInHanded_of_change (C := Try.checked) Try.own started (by kernel_rfl) Try.func6
    (ChangeSpec.witness6 (enc := enc) (C := Try.checked) false ⟨#[], #[.agg (Array.replicate 12 (.int .u64 0)), .agg (Array.replicate 12 (.int .u64 0))], []⟩ 8 (by kernel_rfl) (by kernel_rfl) (by kernel_rfl) (by kernel_rfl)) ?_
  intro W base args ds gs before hval0 hW _ _
  have hval : ∀ (j : Nat) t v, Try.f6.params[j]? = some t → args[j]? = some v → Value.okWide Try.prog W .any base t v := hval0
  have hW' := hW
  obtain ⟨p, q, hA0, hV, rfl, _, _⟩ := hW
  have hA : DataW.TrodAll enc Try.prog W 0 (fun _ => true) true Try.f6.params.toList args.toList ds p := hA0
  rw [Try.params6] at hA hval
  obtain ⟨v0, v1, d0, d1, p0, p1, rfl, rfl, rfl, h0, h1⟩ := trodAll_two hA
  obtain ⟨rfl, rfl⟩ := trodVars_none hV
  obtain ⟨c0, rfl, u0, l0, rfl, s0⟩ := open_flat 8 (by kernel_rfl) (by kernel_rfl) (hval 0 _ v0 rfl rfl) h0
  obtain ⟨x0, b0, rfl⟩ := u_n2' c0 u0 (l0.trans (by kernel_rfl))
  obtain ⟨c1, rfl, u1, l1, rfl, s1⟩ := open_flat 8 (by kernel_rfl) (by kernel_rfl) (hval 1 _ v1 rfl rfl) h1
  obtain ⟨x1, b1, rfl⟩ := u_n2' c1 u1 (l1.trans (by kernel_rfl))
  clear hA0 hval0
  simp only [List.append_nil] at hW'
  obtain ⟨v, hv, hrun⟩ := duoMuls_gives x0 x1 b0 b1
  simp only [AV.val?, Option.some.injEq] at hv
  subst hv
  refine (hrun W [_, _] ⟨rfl, rfl, trivial⟩).mono fun e W' ⟨he, hb⟩ => ?_
  subst he
  exact ⟨_, rfl, _, _, _, [], [], [], hW', trodAll_mk1 (shut_bool Try.underlying4 true), trodAll_mk2 (s0 _ _ _ _) (s1 _ _ _ _), rfl, hb.frame _, fun h => by cases h⟩

theorem duoMuls_holds : Rows.DuoMulsSaid :=
  OpenClaim.holds_of_wide 6 Try.f6 rfl rfl rfl rfl rfl rfl rfl ⟨rfl, rfl, rfl, rfl, rfl⟩ rfl rfl rfl rfl rfl (by kernel_rfl) Try.func6 (by kernel_rfl)
    (of_decide_eq_true (by kernel_rfl)) (by unfold Func.isWrapper; first | (rw [if_pos (by decide +kernel)]; kernel_rfl) | (rw [if_neg (by decide +kernel)]; exact ⟨rfl, rfl⟩))
    (fun os started H enc _ => duoMuls_lifted os started H enc)
end Go.Proofs.Ytncnnngfemhaeaa
