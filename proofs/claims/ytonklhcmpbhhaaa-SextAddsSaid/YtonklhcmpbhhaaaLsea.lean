/- Whatever two numbers A + B v + C v v are given, chirographlaw06.SextAdds says true: remainders, sums, differences, negatives and shifts are as the document says. -/
import Derived.Test.YtonklhcmpbhhaaaSh0
import Derived.Test.YtonklhcmpbhhaaaTo2
import Derived.Test.YtonklhcmpbhhaaaRt
import Derived.Test.YtonklhcmpbhhaaaOpn
import Derived.Test.YtonklhcmpbhhaaaRows
set_option linter.unusedSimpArgs false
set_option linter.unusedVariables false
namespace Go.Proofs.Ytonklhcmpbhhaaa
open Go.Ev Go.ChangeShapes Go.WideShapes Go.ChangeAt Go.RowKit

theorem sextAdds_gives (a : N6) (b : N6) (ha : small6 a) (hb : small6 b) : Gives Try.prog 11 [.t (.ag (n6 a)), .t (.ag (n6 b))] (.v (.bool true)) :=
  fn_gives (P := Try.prog) (env := [eAlive6, eSClean, eSAdd, eSSub, eSNeg, eSShf, eClean6, eAdd6r, eNeg6r, eShf6r]) ⟨eAlive6_ok, eSClean_ok, eSAdd_ok, eSSub_ok, eSNeg_ok, eSShf_ok, eClean6_ok, eAdd6r_ok, eNeg6r_ok, eShf6r_ok, trivial⟩ Try.func11 0 (o0) (by kernel_rfl)
      (And.intro (show flat (q6 (shf6 (of6 a))) = flat (q6 (shf6 (of6 a))) from rfl) 
      (And.intro (show sm6 (.inr a) from ha) 
      (And.intro (show flat (q6 (neg6 (of6 a))) = flat (q6 (neg6 (of6 a))) from rfl) 
      (And.intro (show sm6 (.inr a) from ha) 
      (And.intro (show flat (q6 (sub6 (of6 a) (of6 b))) = flat (q6 (add6 (of6 a) (neg6 (of6 b)))) from by rw [sub6_eq]) 
      (And.intro (show sm6 (.inr a) ∧ sm6 (.inr b) from ⟨ha, hb⟩) 
      (And.intro (show flat (q6 (add6 (of6 a) (of6 b))) = flat (q6 (add6 (of6 a) (of6 b))) from rfl) 
      (And.intro (show sm6 (.inr a) ∧ sm6 (.inr b) from ⟨ha, hb⟩) 
      (And.intro (show flat (q6 (of6 a)) = flat (q6 (of6 a)) from rfl) 
      (And.intro (show sm6 (.inr a) from ha) 
      (And.intro (show small6 b from hb) 
      (And.intro (show small6 a from ha) trivial))))))))))))

theorem Try.own : ownKnob Try.prog.godebug = none := by kernel_rfl

set_option maxRecDepth 100000 in
theorem sextAdds_lifted (os : Os) (started : os.Started) (H : Type) (enc : TypeId × Value → H) :
    ReturnsInHanded {} Try.checked os 11 .any (Rows.sextAddsSpec.pre6 enc Try.prog Try.f11 Rows.sextAddsRow.domain false) (Rows.sextAddsSpec.post enc Try.prog Try.f11 false true false false) := by
  refine returnsInHanded_of_change (C := Try.checked) Try.own started (by kernel_rfl) Try.func11
    (ChangeSpec.witness6 (enc := enc) (C := Try.checked) false ⟨#[], #[.agg (Array.replicate 36 (.int .u64 0)), .agg (Array.replicate 36 (.int .u64 0))], []⟩ 8 (by kernel_rfl) (by kernel_rfl) (by kernel_rfl) (by kernel_rfl)) ?_
  intro W base args ds gs before hval0 hW _ _
  have hval : ∀ (j : Nat) t v, Try.f11.params[j]? = some t → args[j]? = some v → Value.okWide Try.prog W .any base t v := hval0
  have hW' := hW
  obtain ⟨p, q, hA0, hV, rfl, _, _⟩ := hW
  have hA : DataW.TrodAll enc Try.prog W 0 (fun _ => true) true Try.f11.params.toList args.toList ds p := hA0
  rw [Try.params11] at hA hval
  obtain ⟨v0, v1, d0, d1, p0, p1, rfl, rfl, rfl, h0, h1⟩ := trodAll_two hA
  obtain ⟨rfl, rfl⟩ := trodVars_none hV
  obtain ⟨c0, rfl, u0, l0, rfl, s0⟩ := open_flat 8 (by kernel_rfl) (by kernel_rfl) (hval 0 _ v0 rfl rfl) h0
  obtain ⟨x0, b0, rfl⟩ := u_n6 c0 u0 (l0.trans (by kernel_rfl))
  obtain ⟨c1, rfl, u1, l1, rfl, s1⟩ := open_flat 8 (by kernel_rfl) (by kernel_rfl) (hval 1 _ v1 rfl rfl) h1
  obtain ⟨x1, b1, rfl⟩ := u_n6 c1 u1 (l1.trans (by kernel_rfl))
  clear hA0 hval0
  simp only [List.append_nil] at hW'
  obtain ⟨v, hv, hrun⟩ := sextAdds_gives x0 x1 b0 b1
  simp only [AV.val?, Option.some.injEq] at hv
  subst hv
  refine (hrun W [_, _] ⟨rfl, rfl, trivial⟩).mono fun e W' ⟨he, hb⟩ => ?_
  subst he
  exact ⟨_, rfl, _, _, _, [], [], [], hW', trodAll_mk1 (shut_bool Try.underlying4 true), trodAll_mk2 (s0 _ _ _ _) (s1 _ _ _ _), rfl, hb.frame _, fun h => by cases h⟩

theorem sextAdds_holds : Rows.SextAddsSaid :=
  OpenClaim.holds_of_wide 11 Try.f11 rfl rfl rfl rfl rfl rfl rfl ⟨rfl, rfl, rfl, rfl, rfl⟩ rfl rfl rfl rfl rfl (by kernel_rfl) Try.func11 (by kernel_rfl)
    (of_decide_eq_true (by kernel_rfl)) (by unfold Func.isWrapper; first | (rw [if_pos (by decide +kernel)]; kernel_rfl) | (rw [if_neg (by decide +kernel)]; exact ⟨rfl, rfl⟩))
    (fun os started H enc _ => sextAdds_lifted os started H enc)
end Go.Proofs.Ytonklhcmpbhhaaa
