/- Whatever two numbers A + B w are given, chirographlaw07.FullMuls says true: products and inverses are as the document says. -/
import Derived.Test.YtncnnngfemhaeaaTo3
import Derived.Test.YtncnnngfemhaeaaRt
import Derived.Test.YtncnnngfemhaeaaOpn
import Derived.Test.YtncnnngfemhaeaaRows
set_option linter.unusedSimpArgs false
set_option linter.unusedVariables false
namespace Go.Proofs.Ytncnnngfemhaeaa
open Go.Ev Go.ChangeShapes Go.WideShapes Go.ChangeAt Go.RowKit

theorem inv_or12 (x : F12) : (x = zero12 ∧ inv12 x = zero12) ∨ (x ≠ zero12 ∧ mul12 x (inv12 x) = one12) := by
  by_cases h : x = zero12
  · exact .inl ⟨h, by rw [h, inv12_zero]⟩
  · exact .inr ⟨h, inv12_mul h⟩
theorem fullMuls_gives (a : N12) (b : N12) (ha : small12 a) (hb : small12 b) : Gives Try.prog 10 [.t (.ag (n12 a)), .t (.ag (n12 b))] (.v (.bool true)) :=
  fn_gives (P := Try.prog) (env := [eAl7, eUMul, eUInv, eClean12, eMul12r, eIsInv12]) ⟨eAl7_ok, eUMul_ok, eUInv_ok, eClean12_ok, eMul12r_ok, eIsInv12_ok, trivial⟩ Try.func10 0 (o0) (by kernel_rfl)
      (And.intro (show ((of12 a) = zero12 ∧ (inv12 (of12 a)) = zero12) ∨ ((of12 a) ≠ zero12 ∧ mul12 (of12 a) (inv12 (of12 a)) = one12) from inv_or12 (of12 a)) 
      (And.intro (show sm12 (.inr a) from ha) 
      (And.intro (show flat (q12 (mul12 (of12 a) (of12 b))) = flat (q12 (mul12 (of12 a) (of12 b))) from rfl) 
      (And.intro (show sm12 (.inr a) ∧ sm12 (.inr b) from ⟨ha, hb⟩) 
      (And.intro (show small12 b from hb) 
      (And.intro (show small12 a from ha) trivial))))))

theorem Try.own : ownKnob Try.prog.godebug = none := by kernel_rfl

set_option maxRecDepth 100000 in
theorem fullMuls_lifted (os : Os) (started : os.Started) (H : Type) (enc : TypeId × Value → H) :
    ReturnsInHanded {} Try.checked os 10 .any (Rows.fullMulsSpec.pre6 enc Try.prog Try.f10 Rows.fullMulsRow.domain false) (Rows.fullMulsSpec.post enc Try.prog Try.f10 false true false false) := by
  refine returnsInHanded_of_change (C := Try.checked) Try.own started (by kernel_rfl) Try.func10
    (ChangeSpec.witness6 (enc := enc) (C := Try.checked) false ⟨#[], #[.agg (Array.replicate 72 (.int .u64 0)), .agg (Array.replicate 72 (.int .u64 0))], []⟩ 8 (by kernel_rfl) (by kernel_rfl) (by kernel_rfl) (by kernel_rfl)) ?_
  intro W base args ds gs before hval0 hW _ _
  have hval : ∀ (j : Nat) t v, Try.f10.params[j]? = some t → args[j]? = some v → Value.okWide Try.prog W .any base t v := hval0
  have hW' := hW
  obtain ⟨p, q, hA0, hV, rfl, _, _⟩ := hW
  have hA : DataW.TrodAll enc Try.prog W 0 (fun _ => true) true Try.f10.params.toList args.toList ds p := hA0
  rw [Try.params10] at hA hval
  obtain ⟨v0, v1, d0, d1, p0, p1, rfl, rfl, rfl, h0, h1⟩ := trodAll_two hA
  obtain ⟨rfl, rfl⟩ := trodVars_none hV
  obtain ⟨c0, rfl, u0, l0, rfl, s0⟩ := open_flat 8 (by kernel_rfl) (by kernel_rfl) (hval 0 _ v0 rfl rfl) h0
  obtain ⟨x0, b0, rfl⟩ := u_n12 c0 u0 (l0.trans (by kernel_rfl))
  obtain ⟨c1, rfl, u1, l1, rfl, s1⟩ := open_flat 8 (by kernel_rfl) (by kernel_rfl) (hval 1 _ v1 rfl rfl) h1
  obtain ⟨x1, b1, rfl⟩ := u_n12 c1 u1 (l1.trans (by kernel_rfl))
  clear hA0 hval0
  simp only [List.append_nil] at hW'
  obtain ⟨v, hv, hrun⟩ := fullMuls_gives x0 x1 b0 b1
  simp only [AV.val?, Option.some.injEq] at hv
  subst hv
  refine (hrun W [_, _] ⟨rfl, rfl, trivial⟩).mono fun e W' ⟨he, hb⟩ => ?_
  subst he
  exact ⟨_, rfl, _, _, _, [], [], [], hW', trodAll_mk1 (shut_bool Try.underlying4 true), trodAll_mk2 (s0 _ _ _ _) (s1 _ _ _ _), rfl, hb.frame _, fun h => by cases h⟩

theorem fullMuls_holds : Rows.FullMulsSaid :=
  OpenClaim.holds_of_wide 10 Try.f10 rfl rfl rfl rfl rfl rfl rfl ⟨rfl, rfl, rfl, rfl, rfl⟩ rfl rfl rfl rfl rfl (by kernel_rfl) Try.func10 (by kernel_rfl)
    (of_decide_eq_true (by kernel_rfl)) (by unfold Func.isWrapper; first | (rw [if_pos (by decide +kernel)]; kernel_rfl) | (rw [if_neg (by decide +kernel)]; exact ⟨rfl, rfl⟩))
    (fun os started H enc _ => fullMuls_lifted os started H enc)
end Go.Proofs.Ytncnnngfemhaeaa
