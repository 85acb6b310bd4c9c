/- Whatever two numbers A + B v + C v v are given, chirographlaw06.SextMuls says true: products and inverses are as the document says. -/
import Derived.Test.YtncnnngfemhaeaaSh0
import Derived.Test.YtncnnngfemhaeaaTo3
import Derived.Test.YtncnnngfemhaeaaRt
import Derived.Test.YtncnnngfemhaeaaOpn
import Derived.Test.YtncnnngfemhaeaaRows
set_option linter.unusedSimpArgs false
set_option linter.unusedVariables false
namespace Go.Proofs.Ytncnnngfemhaeaa
open Go.Ev Go.ChangeShapes Go.WideShapes Go.ChangeAt Go.RowKit

theorem inv_or6 (x : F6) : (x = zero6 ∧ inv6 x = zero6) ∨ (x ≠ zero6 ∧ mul6 x (inv6 x) = one6) := by
  by_cases h : x = zero6
  · exact .inl ⟨h, by rw [h, inv6_zero]⟩
  · exact .inr ⟨h, inv6_mul h⟩
theorem sextMuls_gives (a : N6) (b : N6) (ha : small6 a) (hb : small6 b) : Gives Try.prog 8 [.t (.ag (n6 a)), .t (.ag (n6 b))] (.v (.bool true)) :=
  fn_gives (P := Try.prog) (env := [eAlive6, eSMul, eSInv, eClean6, eMul6r, eIsInv6]) ⟨eAlive6_ok, eSMul_ok, eSInv_ok, eClean6_ok, eMul6r_ok, eIsInv6_ok, trivial⟩ Try.func8 0 (o0) (by kernel_rfl)
      (And.intro (show ((of6 a) = zero6 ∧ (inv6 (of6 a)) = zero6) ∨ ((of6 a) ≠ zero6 ∧ mul6 (of6 a) (inv6 (of6 a)) = one6) from inv_or6 (of6 a)) 
      (And.intro (show sm6 (.inr a) from ha) 
      (And.intro (show flat (q6 (mul6 (of6 a) (of6 b))) = flat (q6 (mul6 (of6 a) (of6 b))) from rfl) 
      (And.intro (show sm6 (.inr a) ∧ sm6 (.inr b) from ⟨ha, hb⟩) 
      (And.intro (show small6 b from hb) 
      (And.intro (show small6 a from ha) trivial))))))

theorem Try.own : ownKnob Try.prog.godebug = none := by kernel_rfl

set_option maxRecDepth 100000 in
theorem sextMuls_lifted (os : Os) (started : os.Started) (H : Type) (enc : TypeId × Value → H) :
    ReturnsInHanded {} Try.checked os 8 .any (Rows.sextMulsSpec.pre6 enc Try.prog Try.f8 Rows.sextMulsRow.domain false) (Rows.sextMulsSpec.post enc Try.prog Try.f8 false true false false) := by
  refine returnsInHanded_of_change (C := Try.checked) Try.own started (by kernel_rfl) Try.func8
    (ChangeSpec.witness6 (enc := enc) (C := Try.checked) false ⟨#[], #[.agg (Array.replicate 36 (.int .u64 0)), .agg (Array.replicate 36 (.int .u64 0))], []⟩ 8 (by kernel_rfl) (by kernel_rfl) (by kernel_rfl) (by kernel_rfl)) ?_
  intro W base args ds gs before hval0 hW _ _
  have hval : ∀ (j : Nat) t v, Try.f8.params[j]? = some t → args[j]? = some v → Value.okWide Try.prog W .any base t v := hval0
  have hW' := hW
  obtain ⟨p, q, hA0, hV, rfl, _, _⟩ := hW
  have hA : DataW.TrodAll enc Try.prog W 0 (fun _ => true) true Try.f8.params.toList args.toList ds p := hA0
  rw [Try.params8] at hA hval
  obtain ⟨v0, v1, d0, d1, p0, p1, rfl, rfl, rfl, h0, h1⟩ := trodAll_two hA
  obtain ⟨rfl, rfl⟩ := trodVars_none hV
  obtain ⟨c0, rfl, u0, l0, rfl, s0⟩ := open_flat 8 (by kernel_rfl) (by kernel_rfl) (hval 0 _ v0 rfl rfl) h0
  obtain ⟨x0, b0, rfl⟩ := u_n6 c0 u0 (l0.trans (by kernel_rfl))
  obtain ⟨c1, rfl, u1, l1, rfl, s1⟩ := open_flat 8 (by kernel_rfl) (by kernel_rfl) (hval 1 _ v1 rfl rfl) h1
  obtain ⟨x1, b1, rfl⟩ := u_n6 c1 u1 (l1.trans (by kernel_rfl))
  clear hA0 hval0
  simp only [List.append_nil] at hW'
  obtain ⟨v, hv, hrun⟩ := sextMuls_gives x0 x1 b0 b1
  simp only [AV.val?, Option.some.injEq] at hv
  subst hv
  refine (hrun W [_, _] ⟨rfl, rfl, trivial⟩).mono fun e W' ⟨he, hb⟩ => ?_
  subst he
  exact ⟨_, rfl, _, _, _, [], [], [], hW', trodAll_mk1 (shut_bool Try.underlying4 true), trodAll_mk2 (s0 _ _ _ _) (s1 _ _ _ _), rfl, hb.frame _, fun h => by cases h⟩

theorem sextMuls_holds : Rows.SextMulsSaid :=
  OpenClaim.holds_of_wide 8 Try.f8 rfl rfl rfl rfl rfl rfl rfl ⟨rfl, rfl, rfl, rfl, rfl⟩ rfl rfl rfl rfl rfl (by kernel_rfl) Try.func8 (by kernel_rfl)
    (of_decide_eq_true (by kernel_rfl)) (by unfold Func.isWrapper; first | (rw [if_pos (by decide +kernel)]; kernel_rfl) | (rw [if_neg (by decide +kernel)]; exact ⟨rfl, rfl⟩))
    (fun os started H enc _ => sextMuls_lifted os started H enc)
end Go.Proofs.Ytncnnngfemhaeaa
