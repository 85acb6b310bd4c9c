/- Whatever three numbers A + B w are given, chirographlaw07.FullField says true: the laws of a field. -/
import Derived.Test.YtncnnngfemhaeaaTo3
import Derived.Test.YtncnnngfemhaeaaRt
import Derived.Test.YtncnnngfemhaeaaOpn
import Derived.Test.YtncnnngfemhaeaaRows
set_option linter.unusedSimpArgs false
set_option linter.unusedVariables false
namespace Go.Proofs.Ytncnnngfemhaeaa
open Go.Ev Go.ChangeShapes Go.WideShapes Go.ChangeAt Go.RowKit

def zN12 : N12 := (((0, 0), (0, 0), (0, 0)), ((0, 0), (0, 0), (0, 0)))
theorem small_zN12 : small12 zN12 := by unfold small12 small6 small2 small zN12; decide
theorem of_zN12 : of12 zN12 = zero12 := by decide
theorem fullField_z (a b c : N12) (ha : small12 a) (hb : small12 b) (hc : small12 c) (h : of12 a = zero12) : Gives Try.prog 11 [.t (.ag (n12 a)), .t (.ag (n12 b)), .t (.ag (n12 c))] (.v (.bool true)) :=
  fn_gives (P := Try.prog) (env := [eAl7, eUClean, eUAdd, eUMul, eUInv, eUOne]) ⟨eAl7_ok, eUClean_ok, eUAdd_ok, eUMul_ok, eUInv_ok, eUOne_ok, trivial⟩ Try.func11 0 (oL [(10, hdO 74), (84, hdO 14), (98, hdO 22)]) (by kernel_rfl)
      (And.intro (show flat (q12 (inv12 (of12 a))) = flat (q12 (of12 a)) from by rw [h, inv12_zero]) 
      (And.intro (show sm12 (.inr a) from ha) 
      (And.intro (show flat (q12 (of12 a)) = flat (List.replicate 72 (.c (.int .u64 0))) from by rw [h]; exact zero_q12) 
      (And.intro (show flat (q12 (mul12 (of12 a) one12)) = flat (q12 (of12 a)) from by rw [mul12_one]) 
      (And.intro (show sm12 (.inr a) ∧ sm12 (.inl one12) from ⟨ha, trivial⟩) 
      (And.intro (show flat (q12 (add12 (of12 a) (of12 zN12))) = flat (q12 (of12 a)) from by rw [of_zN12, add12_zero]) 
      (And.intro (show sm12 (.inr a) ∧ sm12 (.inr zN12) from ⟨ha, small_zN12⟩) 
      (And.intro (show flat (q12 (mul12 (of12 a) (add12 (of12 b) (of12 c)))) = flat (q12 (add12 (mul12 (of12 a) (of12 b)) (mul12 (of12 a) (of12 c)))) from by rw [mul12_add]) 
      (And.intro (show sm12 (.inl (mul12 (of12 a) (of12 b))) ∧ sm12 (.inl (mul12 (of12 a) (of12 c))) from ⟨trivial, trivial⟩) 
      (And.intro (show sm12 (.inr a) ∧ sm12 (.inr c) from ⟨ha, hc⟩) 
      (And.intro (show sm12 (.inr a) ∧ sm12 (.inr b) from ⟨ha, hb⟩) 
      (And.intro (show sm12 (.inr a) ∧ sm12 (.inl (add12 (of12 b) (of12 c))) from ⟨ha, trivial⟩) 
      (And.intro (show sm12 (.inr b) ∧ sm12 (.inr c) from ⟨hb, hc⟩) 
      (And.intro (show flat (q12 (mul12 (mul12 (of12 a) (of12 b)) (of12 c))) = flat (q12 (mul12 (of12 a) (mul12 (of12 b) (of12 c)))) from by rw [mul12_assoc]) 
      (And.intro (show sm12 (.inr a) ∧ sm12 (.inl (mul12 (of12 b) (of12 c))) from ⟨ha, trivial⟩) 
      (And.intro (show sm12 (.inr b) ∧ sm12 (.inr c) from ⟨hb, hc⟩) 
      (And.intro (show sm12 (.inl (mul12 (of12 a) (of12 b))) ∧ sm12 (.inr c) from ⟨trivial, hc⟩) 
      (And.intro (show sm12 (.inr a) ∧ sm12 (.inr b) from ⟨ha, hb⟩) 
      (And.intro (show flat (q12 (add12 (add12 (of12 a) (of12 b)) (of12 c))) = flat (q12 (add12 (of12 a) (add12 (of12 b) (of12 c)))) from by rw [add12_assoc]) 
      (And.intro (show sm12 (.inr a) ∧ sm12 (.inl (add12 (of12 b) (of12 c))) from ⟨ha, trivial⟩) 
      (And.intro (show sm12 (.inr b) ∧ sm12 (.inr c) from ⟨hb, hc⟩) 
      (And.intro (show sm12 (.inl (add12 (of12 a) (of12 b))) ∧ sm12 (.inr c) from ⟨trivial, hc⟩) 
      (And.intro (show sm12 (.inr a) ∧ sm12 (.inr b) from ⟨ha, hb⟩) 
      (And.intro (show flat (q12 (mul12 (of12 a) (of12 b))) = flat (q12 (mul12 (of12 b) (of12 a))) from by rw [mul12_comm]) 
      (And.intro (show sm12 (.inr b) ∧ sm12 (.inr a) from ⟨hb, ha⟩) 
      (And.intro (show sm12 (.inr a) ∧ sm12 (.inr b) from ⟨ha, hb⟩) 
      (And.intro (show flat (q12 (add12 (of12 a) (of12 b))) = flat (q12 (add12 (of12 b) (of12 a))) from by rw [add12_comm]) 
      (And.intro (show sm12 (.inr b) ∧ sm12 (.inr a) from ⟨hb, ha⟩) 
      (And.intro (show sm12 (.inr a) ∧ sm12 (.inr b) from ⟨ha, hb⟩) 
      (And.intro (show sm12 (.inr a) from ha) trivial))))))))))))))))))))))))))))))

theorem fullField_n (a b c : N12) (ha : small12 a) (hb : small12 b) (hc : small12 c) (h : of12 a ≠ zero12) : Gives Try.prog 11 [.t (.ag (n12 a)), .t (.ag (n12 b)), .t (.ag (n12 c))] (.v (.bool true)) :=
  fn_gives (P := Try.prog) (env := [eAl7, eUClean, eUAdd, eUMul, eUInv, eUOne]) ⟨eAl7_ok, eUClean_ok, eUAdd_ok, eUMul_ok, eUInv_ok, eUOne_ok, trivial⟩ Try.func11 0 (oL [(102, wO 1), (10, hdO 74), (84, hdO 14), (98, hdO 22)]) (by kernel_rfl)
      (And.intro (show flat (q12 (mul12 (of12 a) (inv12 (of12 a)))) = flat (q12 one12) from by rw [inv12_mul h]) 
      (And.intro (show sm12 (.inr a) ∧ sm12 (.inl (inv12 (of12 a))) from ⟨ha, trivial⟩) 
      (And.intro (show sm12 (.inr a) from ha) 
      (And.intro (show ¬ flat (q12 (of12 a)) = flat (List.replicate 72 (.c (.int .u64 0))) from fun e => h (q12_inj (e.trans zero_q12.symm))) 
      (And.intro (show flat (q12 (mul12 (of12 a) one12)) = flat (q12 (of12 a)) from by rw [mul12_one]) 
      (And.intro (show sm12 (.inr a) ∧ sm12 (.inl one12) from ⟨ha, trivial⟩) 
      (And.intro (show flat (q12 (add12 (of12 a) (of12 zN12))) = flat (q12 (of12 a)) from by rw [of_zN12, add12_zero]) 
      (And.intro (show sm12 (.inr a) ∧ sm12 (.inr zN12) from ⟨ha, small_zN12⟩) 
      (And.intro (show flat (q12 (mul12 (of12 a) (add12 (of12 b) (of12 c)))) = flat (q12 (add12 (mul12 (of12 a) (of12 b)) (mul12 (of12 a) (of12 c)))) from by rw [mul12_add]) 
      (And.intro (show sm12 (.inl (mul12 (of12 a) (of12 b))) ∧ sm12 (.inl (mul12 (of12 a) (of12 c))) from ⟨trivial, trivial⟩) 
      (And.intro (show sm12 (.inr a) ∧ sm12 (.inr c) from ⟨ha, hc⟩) 
      (And.intro (show sm12 (.inr a) ∧ sm12 (.inr b) from ⟨ha, hb⟩) 
      (And.intro (show sm12 (.inr a) ∧ sm12 (.inl (add12 (of12 b) (of12 c))) from ⟨ha, trivial⟩) 
      (And.intro (show sm12 (.inr b) ∧ sm12 (.inr c) from ⟨hb, hc⟩) 
      (And.intro (show flat (q12 (mul12 (mul12 (of12 a) (of12 b)) (of12 c))) = flat (q12 (mul12 (of12 a) (mul12 (of12 b) (of12 c)))) from by rw [mul12_assoc]) 
      (And.intro (show sm12 (.inr a) ∧ sm12 (.inl (mul12 (of12 b) (of12 c))) from ⟨ha, trivial⟩) 
      (And.intro (show sm12 (.inr b) ∧ sm12 (.inr c) from ⟨hb, hc⟩) 
      (And.intro (show sm12 (.inl (mul12 (of12 a) (of12 b))) ∧ sm12 (.inr c) from ⟨trivial, hc⟩) 
      (And.intro (show sm12 (.inr a) ∧ sm12 (.inr b) from ⟨ha, hb⟩) 
      (And.intro (show flat (q12 (add12 (add12 (of12 a) (of12 b)) (of12 c))) = flat (q12 (add12 (of12 a) (add12 (of12 b) (of12 c)))) from by rw [add12_assoc]) 
      (And.intro (show sm12 (.inr a) ∧ sm12 (.inl (add12 (of12 b) (of12 c))) from ⟨ha, trivial⟩) 
      (And.intro (show sm12 (.inr b) ∧ sm12 (.inr c) from ⟨hb, hc⟩) 
      (And.intro (show sm12 (.inl (add12 (of12 a) (of12 b))) ∧ sm12 (.inr c) from ⟨trivial, hc⟩) 
      (And.intro (show sm12 (.inr a) ∧ sm12 (.inr b) from ⟨ha, hb⟩) 
      (And.intro (show flat (q12 (mul12 (of12 a) (of12 b))) = flat (q12 (mul12 (of12 b) (of12 a))) from by rw [mul12_comm]) 
      (And.intro (show sm12 (.inr b) ∧ sm12 (.inr a) from ⟨hb, ha⟩) 
      (And.intro (show sm12 (.inr a) ∧ sm12 (.inr b) from ⟨ha, hb⟩) 
      (And.intro (show flat (q12 (add12 (of12 a) (of12 b))) = flat (q12 (add12 (of12 b) (of12 a))) from by rw [add12_comm]) 
      (And.intro (show sm12 (.inr b) ∧ sm12 (.inr a) from ⟨hb, ha⟩) 
      (And.intro (show sm12 (.inr a) ∧ sm12 (.inr b) from ⟨ha, hb⟩) 
      (And.intro (show sm12 (.inr a) from ha) trivial)))))))))))))))))))))))))))))))

theorem fullField_gives (a b c : N12) (ha : small12 a) (hb : small12 b) (hc : small12 c) : Gives Try.prog 11 [.t (.ag (n12 a)), .t (.ag (n12 b)), .t (.ag (n12 c))] (.v (.bool true)) := by
  by_cases h : of12 a = zero12
  · exact fullField_z a b c ha hb hc h
  · exact fullField_n a b c ha hb hc h

theorem Try.own : ownKnob Try.prog.godebug = none := by kernel_rfl

set_option maxRecDepth 100000 in
theorem fullField_lifted (os : Os) (started : os.Started) (H : Type) (enc : TypeId × Value → H) :
    ReturnsInHanded {} Try.checked os 11 .any (Rows.fullFieldSpec.pre6 enc Try.prog Try.f11 Rows.fullFieldRow.domain false) (Rows.fullFieldSpec.post enc Try.prog Try.f11 false true false false) := by
  refine returnsInHanded_of_change (C := Try.checked) Try.own started (by kernel_rfl) Try.func11
    (ChangeSpec.witness6 (enc := enc) (C := Try.checked) false ⟨#[], #[.agg (Array.replicate 72 (.int .u64 0)), .agg (Array.replicate 72 (.int .u64 0)), .agg (Array.replicate 72 (.int .u64 0))], []⟩ 8 (by kernel_rfl) (by kernel_rfl) (by kernel_rfl) (by kernel_rfl)) ?_
  intro W base args ds gs before hval0 hW _ _
  have hval : ∀ (j : Nat) t v, Try.f11.params[j]? = some t → args[j]? = some v → Value.okWide Try.prog W .any base t v := hval0
  have hW' := hW
  obtain ⟨p, q, hA0, hV, rfl, _, _⟩ := hW
  have hA : DataW.TrodAll enc Try.prog W 0 (fun _ => true) true Try.f11.params.toList args.toList ds p := hA0
  rw [Try.params11] at hA hval
  obtain ⟨v0, v1, v2, d0, d1, d2, p0, p1, p2, rfl, rfl, rfl, h0, h1, h2⟩ := trodAll_three hA
  obtain ⟨rfl, rfl⟩ := trodVars_none hV
  obtain ⟨c0, rfl, u0, l0, rfl, s0⟩ := open_flat 8 (by kernel_rfl) (by kernel_rfl) (hval 0 _ v0 rfl rfl) h0
  obtain ⟨x0, b0, rfl⟩ := u_n12 c0 u0 (l0.trans (by kernel_rfl))
  obtain ⟨c1, rfl, u1, l1, rfl, s1⟩ := open_flat 8 (by kernel_rfl) (by kernel_rfl) (hval 1 _ v1 rfl rfl) h1
  obtain ⟨x1, b1, rfl⟩ := u_n12 c1 u1 (l1.trans (by kernel_rfl))
  obtain ⟨c2, rfl, u2, l2, rfl, s2⟩ := open_flat 8 (by kernel_rfl) (by kernel_rfl) (hval 2 _ v2 rfl rfl) h2
  obtain ⟨x2, b2, rfl⟩ := u_n12 c2 u2 (l2.trans (by kernel_rfl))
  clear hA0 hval0
  simp only [List.append_nil] at hW'
  obtain ⟨v, hv, hrun⟩ := fullField_gives x0 x1 x2 b0 b1 b2
  simp only [AV.val?, Option.some.injEq] at hv
  subst hv
  refine (hrun W [_, _, _] ⟨rfl, rfl, rfl, trivial⟩).mono fun e W' ⟨he, hb⟩ => ?_
  subst he
  exact ⟨_, rfl, _, _, _, [], [], [], hW', trodAll_mk1 (shut_bool Try.underlying4 true), trodAll_mk3 (s0 _ _ _ _) (s1 _ _ _ _) (s2 _ _ _ _), rfl, hb.frame _, fun h => by cases h⟩

theorem fullField_holds : Rows.FullFieldSaid :=
  OpenClaim.holds_of_wide 11 Try.f11 rfl rfl rfl rfl rfl rfl rfl ⟨rfl, rfl, rfl, rfl, rfl⟩ rfl rfl rfl rfl rfl (by kernel_rfl) Try.func11 (by kernel_rfl)
    (of_decide_eq_true (by kernel_rfl)) (by unfold Func.isWrapper; first | (rw [if_pos (by decide +kernel)]; kernel_rfl) | (rw [if_neg (by decide +kernel)]; exact ⟨rfl, rfl⟩))
    (fun os started H enc _ => fullField_lifted os started H enc)
end Go.Proofs.Ytncnnngfemhaeaa
