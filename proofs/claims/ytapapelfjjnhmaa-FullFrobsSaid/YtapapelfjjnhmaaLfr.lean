/- Whatever two numbers A + B w are given, chirographlaw07.FullFrobs says true: Frob is the power of p, of sums and products it is that of the Frobs, six of them turn the sign of w, twelve of them nothing. -/
import Derived.Test.YtapapelfjjnhmaaFrc
import Derived.Test.YtapapelfjjnhmaaFrd
import Derived.Test.YtapapelfjjnhmaaPwT
import Derived.Test.YtapapelfjjnhmaaRt
import Derived.Test.YtapapelfjjnhmaaOpn
import Derived.Test.YtapapelfjjnhmaaRows
set_option linter.unusedSimpArgs false
set_option linter.unusedVariables false
namespace Go.Proofs.Ytapapelfjjnhmaa
open Go.Ev Go.ChangeShapes Go.WideShapes Go.ChangeAt Go.RowKit

def eN : Nat := pN
theorem fullFrobs_gives (a : N12) (b : N12) (ha : small12 a) (hb : small12 b) : Gives Try.prog 4 [.t (.ag (n12 a)), .t (.ag (n12 b))] (.v (.bool true)) :=
  fn_gives (P := Try.prog) (env := [eUFrob, eUMul, eUAdd, eUConj, eUClean, eUPow, eRRP, eAl7]) ⟨eUFrob_ok, eUMul_ok, eUAdd_ok, eUConj_ok, eUClean_ok, eUPow_ok, eRRP_ok, eAl7_ok, trivial⟩ Try.func4 0 (oL [(51, hdO 55)]) (by kernel_rfl)
      (And.intro (show flat (q12 (conj12 (conj12 (of12 a)))) = flat (q12 (of12 a)) from congrArg (fun z => flat (q12 z)) (conj12_conj (of12 a))) 
      (And.intro (show sm12 (.inr a) from ha) 
      (And.intro (show sm12 (.inl (conj12 (of12 a))) from trivial) 
      (And.intro (show sm12 (.inr a) from ha) 
      (And.intro (show flat (q12 (frobT (frobT (frobT (frobT (frobT (frobT (of12 a)))))))) = flat (q12 (conj12 (of12 a))) from congrArg (fun z => flat (q12 z)) (frob_six (of12 a))) 
      (And.intro (show sm12 (.inr a) from ha) 
      (And.intro (show flat (q12 (frobT (mul12 (of12 a) (of12 b)))) = flat (q12 (mul12 (frobT (of12 a)) (frobT (of12 b)))) from congrArg (fun z => flat (q12 z)) (frob_mul (of12 a) (of12 b))) 
      (And.intro (show sm12 (.inl (frobT (of12 a))) ∧ sm12 (.inl (frobT (of12 b))) from ⟨trivial, trivial⟩) 
      (And.intro (show sm12 (.inr b) from hb) 
      (And.intro (show sm12 (.inr a) from ha) 
      (And.intro (show sm12 (.inl (mul12 (of12 a) (of12 b))) from trivial) 
      (And.intro (show sm12 (.inr a) ∧ sm12 (.inr b) from ⟨ha, hb⟩) 
      (And.intro (show flat (q12 (frobT (add12 (of12 a) (of12 b)))) = flat (q12 (add12 (frobT (of12 a)) (frobT (of12 b)))) from congrArg (fun z => flat (q12 z)) (frob_add (of12 a) (of12 b))) 
      (And.intro (show sm12 (.inl (frobT (of12 a))) ∧ sm12 (.inl (frobT (of12 b))) from ⟨trivial, trivial⟩) 
      (And.intro (show sm12 (.inr b) from hb) 
      (And.intro (show sm12 (.inr a) from ha) 
      (And.intro (show sm12 (.inl (add12 (of12 a) (of12 b))) from trivial) 
      (And.intro (show sm12 (.inr a) ∧ sm12 (.inr b) from ⟨ha, hb⟩) 
      (And.intro (show flat (q12 (frobT (of12 a))) = flat (q12 (pwT (of12 a) eN)) from congrArg (fun z => flat (q12 z)) (frob_pw (of12 a) eN rfl).symm) 
      (And.intro (show sm12 (.inr a) ∧ eN < 18446744073709551616 ^ 6 from ⟨ha, by decide⟩) 
      (And.intro (show sm12 (.inr a) from ha) 
      (And.intro (show sm12 (.inl (frobT (frobT (frobT (frobT (frobT (of12 a))))))) from trivial) 
      (And.intro (show sm12 (.inl (frobT (frobT (frobT (frobT (of12 a)))))) from trivial) 
      (And.intro (show sm12 (.inl (frobT (frobT (frobT (of12 a))))) from trivial) 
      (And.intro (show sm12 (.inl (frobT (frobT (of12 a)))) from trivial) 
      (And.intro (show sm12 (.inl (frobT (of12 a))) from trivial) 
      (And.intro (show sm12 (.inr a) from ha) trivial)))))))))))))))))))))))))))

theorem Try.own : ownKnob Try.prog.godebug = none := by kernel_rfl

set_option maxRecDepth 100000 in
theorem fullFrobs_lifted (os : Os) (started : os.Started) (H : Type) (enc : TypeId × Value → H) :
    ReturnsInHanded {} Try.checked os 4 .any (Rows.fullFrobsSpec.pre6 enc Try.prog Try.f4 Rows.fullFrobsRow.domain false) (Rows.fullFrobsSpec.post enc Try.prog Try.f4 false true false false) := by
  refine returnsInHanded_of_change (C := Try.checked) Try.own started (by kernel_rfl) Try.func4
    (ChangeSpec.witness6 (enc := enc) (C := Try.checked) false ⟨#[], #[.agg (Array.replicate 72 (.int .u64 0)), .agg (Array.replicate 72 (.int .u64 0))], []⟩ 8 (by kernel_rfl) (by kernel_rfl) (by kernel_rfl) (by kernel_rfl)) ?_
  intro W base args ds gs before hval0 hW _ _
  have hval : ∀ (j : Nat) t v, Try.f4.params[j]? = some t → args[j]? = some v → Value.okWide Try.prog W .any base t v := hval0
  have hW' := hW
  obtain ⟨p, q, hA0, hV, rfl, _, _⟩ := hW
  have hA : DataW.TrodAll enc Try.prog W 0 (fun _ => true) true Try.f4.params.toList args.toList ds p := hA0
  rw [Try.params4] at hA hval
  obtain ⟨v0, v1, d0, d1, p0, p1, rfl, rfl, rfl, h0, h1⟩ := trodAll_two hA
  obtain ⟨rfl, rfl⟩ := trodVars_none hV
  obtain ⟨c0, rfl, u0, l0, rfl, s0⟩ := open_flat 8 (by kernel_rfl) (by kernel_rfl) (hval 0 _ v0 rfl rfl) h0
  obtain ⟨x0, b0, rfl⟩ := u_n12 c0 u0 (l0.trans (by kernel_rfl))
  obtain ⟨c1, rfl, u1, l1, rfl, s1⟩ := open_flat 8 (by kernel_rfl) (by kernel_rfl) (hval 1 _ v1 rfl rfl) h1
  obtain ⟨x1, b1, rfl⟩ := u_n12 c1 u1 (l1.trans (by kernel_rfl))
  clear hA0 hval0
  simp only [List.append_nil] at hW'
  obtain ⟨v, hv, hrun⟩ := fullFrobs_gives x0 x1 b0 b1
  simp only [AV.val?, Option.some.injEq] at hv
  subst hv
  refine (hrun W [_, _] ⟨rfl, rfl, trivial⟩).mono fun e W' ⟨he, hb⟩ => ?_
  subst he
  exact ⟨_, rfl, _, _, _, [], [], [], hW', trodAll_mk1 (shut_bool Try.underlying4 true), trodAll_mk2 (s0 _ _ _ _) (s1 _ _ _ _), rfl, hb.frame _, fun h => by cases h⟩

theorem fullFrobs_holds : Rows.FullFrobsSaid :=
  OpenClaim.holds_of_wide 4 Try.f4 rfl rfl rfl rfl rfl rfl rfl ⟨rfl, rfl, rfl, rfl, rfl⟩ rfl rfl rfl rfl rfl (by kernel_rfl) Try.func4 (by kernel_rfl)
    (of_decide_eq_true (by kernel_rfl)) (by unfold Func.isWrapper; first | (rw [if_pos (by decide +kernel)]; kernel_rfl) | (rw [if_neg (by decide +kernel)]; exact ⟨rfl, rfl⟩))
    (fun os started H enc _ => fullFrobs_lifted os started H enc)
end Go.Proofs.Ytapapelfjjnhmaa
