/- Whatever three numbers A + B v + C v v are given, chirographlaw06.SextField says true: the laws of a field. -/
import Derived.Test.YtncnnngfemhaeaaSh0
import Derived.Test.YtncnnngfemhaeaaTo3
import Derived.Test.YtncnnngfemhaeaaRt
import Derived.Test.YtncnnngfemhaeaaOpn
import Derived.Test.YtncnnngfemhaeaaRows
set_option linter.unusedSimpArgs false
set_option linter.unusedVariables false
namespace Go.Proofs.Ytncnnngfemhaeaa
open Go.Ev Go.ChangeShapes Go.WideShapes Go.ChangeAt Go.RowKit

theorem add_sub2 (a b : F2) : sub2 (add2 a b) b = a := by refine ext2 ?_ ?_ <;> simp only [sub2, add2] <;> grind
theorem add_sub6 (a b : F6) : sub6 (add6 a b) b = a := by refine ext6 ?_ ?_ ?_ <;> simp only [sub6, add6] <;> exact add_sub2 _ _
theorem add_neg6 (a : F6) : add6 a (neg6 a) = zero6 := by rw [add6_comm, neg6_add]
def zN6 : N6 := ((0, 0), (0, 0), (0, 0))
theorem small_zN6 : small6 zN6 := by unfold small6 small2 small zN6; decide
theorem of_zN6 : of6 zN6 = zero6 := by decide
theorem of_oneN6 : of6 oneN = one6 := by decide
theorem const_one6 : flat (q6 one6) = flat (n6 oneN) := by kernel_rfl
theorem sextField_z (a b c : N6) (ha : small6 a) (hb : small6 b) (hc : small6 c) (h : of6 a = zero6) : Gives Try.prog 9 [.t (.ag (n6 a)), .t (.ag (n6 b)), .t (.ag (n6 c))] (.v (.bool true)) :=
  fn_gives (P := Try.prog) (env := [eAlive6, eSClean, eSAdd, eSMul, eSInv, eSSub, eSNeg, eOne6]) ⟨eAlive6_ok, eSClean_ok, eSAdd_ok, eSMul_ok, eSInv_ok, eSSub_ok, eSNeg_ok, eOne6_ok, trivial⟩ Try.func9 0 (oL [(10, hdO 74), (84, hdO 33), (117, hdO 22)]) (by kernel_rfl)
      (And.intro (show flat (q6 (inv6 (of6 a))) = flat (q6 (of6 a)) from by rw [h, inv6_zero]) 
      (And.intro (show sm6 (.inr a) from ha) 
      (And.intro (show flat (q6 (of6 a)) = flat (List.replicate 36 (.c (.int .u64 0))) from by rw [h]; exact zero_q6) 
      (And.intro (show flat (q6 (sub6 (add6 (of6 a) (of6 b)) (of6 b))) = flat (q6 (of6 a)) from by rw [add_sub6]) 
      (And.intro (show sm6 (.inl (add6 (of6 a) (of6 b))) ∧ sm6 (.inr b) from ⟨trivial, hb⟩) 
      (And.intro (show sm6 (.inr a) ∧ sm6 (.inr b) from ⟨ha, hb⟩) 
      (And.intro (show flat (q6 (add6 (of6 a) (neg6 (of6 a)))) = flat (List.replicate 36 (.c (.int .u64 0))) from by rw [add_neg6]; exact zero_q6) 
      (And.intro (show sm6 (.inr a) ∧ sm6 (.inl (neg6 (of6 a))) from ⟨ha, trivial⟩) 
      (And.intro (show sm6 (.inr a) from ha) 
      (And.intro (show flat (q6 (mul6 (of6 a) (of6 oneN))) = flat (q6 (of6 a)) from by rw [of_oneN6, mul6_one]) 
      (And.intro (show sm6 (.inr a) ∧ sm6 (.inr oneN) from ⟨ha, smallOne⟩) 
      (And.intro (show flat (q6 (add6 (of6 a) (of6 zN6))) = flat (q6 (of6 a)) from by rw [of_zN6, add6_zero]) 
      (And.intro (show sm6 (.inr a) ∧ sm6 (.inr zN6) from ⟨ha, small_zN6⟩) 
      (And.intro (show flat (q6 (mul6 (of6 a) (add6 (of6 b) (of6 c)))) = flat (q6 (add6 (mul6 (of6 a) (of6 b)) (mul6 (of6 a) (of6 c)))) from by rw [mul6_add]) 
      (And.intro (show sm6 (.inl (mul6 (of6 a) (of6 b))) ∧ sm6 (.inl (mul6 (of6 a) (of6 c))) from ⟨trivial, trivial⟩) 
      (And.intro (show sm6 (.inr a) ∧ sm6 (.inr c) from ⟨ha, hc⟩) 
      (And.intro (show sm6 (.inr a) ∧ sm6 (.inr b) from ⟨ha, hb⟩) 
      (And.intro (show sm6 (.inr a) ∧ sm6 (.inl (add6 (of6 b) (of6 c))) from ⟨ha, trivial⟩) 
      (And.intro (show sm6 (.inr b) ∧ sm6 (.inr c) from ⟨hb, hc⟩) 
      (And.intro (show flat (q6 (mul6 (mul6 (of6 a) (of6 b)) (of6 c))) = flat (q6 (mul6 (of6 a) (mul6 (of6 b) (of6 c)))) from by rw [mul6_assoc]) 
      (And.intro (show sm6 (.inr a) ∧ sm6 (.inl (mul6 (of6 b) (of6 c))) from ⟨ha, trivial⟩) 
      (And.intro (show sm6 (.inr b) ∧ sm6 (.inr c) from ⟨hb, hc⟩) 
      (And.intro (show sm6 (.inl (mul6 (of6 a) (of6 b))) ∧ sm6 (.inr c) from ⟨trivial, hc⟩) 
      (And.intro (show sm6 (.inr a) ∧ sm6 (.inr b) from ⟨ha, hb⟩) 
      (And.intro (show flat (q6 (add6 (add6 (of6 a) (of6 b)) (of6 c))) = flat (q6 (add6 (of6 a) (add6 (of6 b) (of6 c)))) from by rw [add6_assoc]) 
      (And.intro (show sm6 (.inr a) ∧ sm6 (.inl (add6 (of6 b) (of6 c))) from ⟨ha, trivial⟩) 
      (And.intro (show sm6 (.inr b) ∧ sm6 (.inr c) from ⟨hb, hc⟩) 
      (And.intro (show sm6 (.inl (add6 (of6 a) (of6 b))) ∧ sm6 (.inr c) from ⟨trivial, hc⟩) 
      (And.intro (show sm6 (.inr a) ∧ sm6 (.inr b) from ⟨ha, hb⟩) 
      (And.intro (show flat (q6 (mul6 (of6 a) (of6 b))) = flat (q6 (mul6 (of6 b) (of6 a))) from by rw [mul6_comm]) 
      (And.intro (show sm6 (.inr b) ∧ sm6 (.inr a) from ⟨hb, ha⟩) 
      (And.intro (show sm6 (.inr a) ∧ sm6 (.inr b) from ⟨ha, hb⟩) 
      (And.intro (show flat (q6 (add6 (of6 a) (of6 b))) = flat (q6 (add6 (of6 b) (of6 a))) from by rw [add6_comm]) 
      (And.intro (show sm6 (.inr b) ∧ sm6 (.inr a) from ⟨hb, ha⟩) 
      (And.intro (show sm6 (.inr a) ∧ sm6 (.inr b) from ⟨ha, hb⟩) 
      (And.intro (show sm6 (.inr a) from ha) trivial))))))))))))))))))))))))))))))))))))

theorem sextField_n (a b c : N6) (ha : small6 a) (hb : small6 b) (hc : small6 c) (h : of6 a ≠ zero6) : Gives Try.prog 9 [.t (.ag (n6 a)), .t (.ag (n6 b)), .t (.ag (n6 c))] (.v (.bool true)) :=
  fn_gives (P := Try.prog) (env := [eAlive6, eSClean, eSAdd, eSMul, eSInv, eSSub, eSNeg, eOne6]) ⟨eAlive6_ok, eSClean_ok, eSAdd_ok, eSMul_ok, eSInv_ok, eSSub_ok, eSNeg_ok, eOne6_ok, trivial⟩ Try.func9 0 (oL [(121, wO 1), (10, hdO 74), (84, hdO 33), (117, hdO 22)]) (by kernel_rfl)
      (And.intro (show flat (q6 (mul6 (of6 a) (inv6 (of6 a)))) = flat (n6 oneN) from by rw [inv6_mul h]; exact const_one6) 
      (And.intro (show sm6 (.inr a) ∧ sm6 (.inl (inv6 (of6 a))) from ⟨ha, trivial⟩) 
      (And.intro (show sm6 (.inr a) from ha) 
      (And.intro (show ¬ flat (q6 (of6 a)) = flat (List.replicate 36 (.c (.int .u64 0))) from fun e => h (q6_inj (e.trans zero_q6.symm))) 
      (And.intro (show flat (q6 (sub6 (add6 (of6 a) (of6 b)) (of6 b))) = flat (q6 (of6 a)) from by rw [add_sub6]) 
      (And.intro (show sm6 (.inl (add6 (of6 a) (of6 b))) ∧ sm6 (.inr b) from ⟨trivial, hb⟩) 
      (And.intro (show sm6 (.inr a) ∧ sm6 (.inr b) from ⟨ha, hb⟩) 
      (And.intro (show flat (q6 (add6 (of6 a) (neg6 (of6 a)))) = flat (List.replicate 36 (.c (.int .u64 0))) from by rw [add_neg6]; exact zero_q6) 
      (And.intro (show sm6 (.inr a) ∧ sm6 (.inl (neg6 (of6 a))) from ⟨ha, trivial⟩) 
      (And.intro (show sm6 (.inr a) from ha) 
      (And.intro (show flat (q6 (mul6 (of6 a) (of6 oneN))) = flat (q6 (of6 a)) from by rw [of_oneN6, mul6_one]) 
      (And.intro (show sm6 (.inr a) ∧ sm6 (.inr oneN) from ⟨ha, smallOne⟩) 
      (And.intro (show flat (q6 (add6 (of6 a) (of6 zN6))) = flat (q6 (of6 a)) from by rw [of_zN6, add6_zero]) 
      (And.intro (show sm6 (.inr a) ∧ sm6 (.inr zN6) from ⟨ha, small_zN6⟩) 
      (And.intro (show flat (q6 (mul6 (of6 a) (add6 (of6 b) (of6 c)))) = flat (q6 (add6 (mul6 (of6 a) (of6 b)) (mul6 (of6 a) (of6 c)))) from by rw [mul6_add]) 
      (And.intro (show sm6 (.inl (mul6 (of6 a) (of6 b))) ∧ sm6 (.inl (mul6 (of6 a) (of6 c))) from ⟨trivial, trivial⟩) 
      (And.intro (show sm6 (.inr a) ∧ sm6 (.inr c) from ⟨ha, hc⟩) 
      (And.intro (show sm6 (.inr a) ∧ sm6 (.inr b) from ⟨ha, hb⟩) 
      (And.intro (show sm6 (.inr a) ∧ sm6 (.inl (add6 (of6 b) (of6 c))) from ⟨ha, trivial⟩) 
      (And.intro (show sm6 (.inr b) ∧ sm6 (.inr c) from ⟨hb, hc⟩) 
      (And.intro (show flat (q6 (mul6 (mul6 (of6 a) (of6 b)) (of6 c))) = flat (q6 (mul6 (of6 a) (mul6 (of6 b) (of6 c)))) from by rw [mul6_assoc]) 
      (And.intro (show sm6 (.inr a) ∧ sm6 (.inl (mul6 (of6 b) (of6 c))) from ⟨ha, trivial⟩) 
      (And.intro (show sm6 (.inr b) ∧ sm6 (.inr c) from ⟨hb, hc⟩) 
      (And.intro (show sm6 (.inl (mul6 (of6 a) (of6 b))) ∧ sm6 (.inr c) from ⟨trivial, hc⟩) 
      (And.intro (show sm6 (.inr a) ∧ sm6 (.inr b) from ⟨ha, hb⟩) 
      (And.intro (show flat (q6 (add6 (add6 (of6 a) (of6 b)) (of6 c))) = flat (q6 (add6 (of6 a) (add6 (of6 b) (of6 c)))) from by rw [add6_assoc]) 
      (And.intro (show sm6 (.inr a) ∧ sm6 (.inl (add6 (of6 b) (of6 c))) from ⟨ha, trivial⟩) 
      (And.intro (show sm6 (.inr b) ∧ sm6 (.inr c) from ⟨hb, hc⟩) 
      (And.intro (show sm6 (.inl (add6 (of6 a) (of6 b))) ∧ sm6 (.inr c) from ⟨trivial, hc⟩) 
      (And.intro (show sm6 (.inr a) ∧ sm6 (.inr b) from ⟨ha, hb⟩) 
      (And.intro (show flat (q6 (mul6 (of6 a) (of6 b))) = flat (q6 (mul6 (of6 b) (of6 a))) from by rw [mul6_comm]) 
      (And.intro (show sm6 (.inr b) ∧ sm6 (.inr a) from ⟨hb, ha⟩) 
      (And.intro (show sm6 (.inr a) ∧ sm6 (.inr b) from ⟨ha, hb⟩) 
      (And.intro (show flat (q6 (add6 (of6 a) (of6 b))) = flat (q6 (add6 (of6 b) (of6 a))) from by rw [add6_comm]) 
      (And.intro (show sm6 (.inr b) ∧ sm6 (.inr a) from ⟨hb, ha⟩) 
      (And.intro (show sm6 (.inr a) ∧ sm6 (.inr b) from ⟨ha, hb⟩) 
      (And.intro (show sm6 (.inr a) from ha) trivial)))))))))))))))))))))))))))))))))))))

theorem sextField_gives (a b c : N6) (ha : small6 a) (hb : small6 b) (hc : small6 c) : Gives Try.prog 9 [.t (.ag (n6 a)), .t (.ag (n6 b)), .t (.ag (n6 c))] (.v (.bool true)) := by
  by_cases h : of6 a = zero6
  · exact sextField_z a b c ha hb hc h
  · exact sextField_n a b c ha hb hc h

theorem Try.own : ownKnob Try.prog.godebug = none := by kernel_rfl

set_option maxRecDepth 100000 in
theorem sextField_lifted (os : Os) (started : os.Started) (H : Type) (enc : TypeId × Value → H) :
    ReturnsInHanded {} Try.checked os 9 .any (Rows.sextFieldSpec.pre6 enc Try.prog Try.f9 Rows.sextFieldRow.domain false) (Rows.sextFieldSpec.post enc Try.prog Try.f9 false true false false) := by
  refine returnsInHanded_of_change (C := Try.checked) Try.own started (by kernel_rfl) Try.func9
    (ChangeSpec.witness6 (enc := enc) (C := Try.checked) false ⟨#[], #[.agg (Array.replicate 36 (.int .u64 0)), .agg (Array.replicate 36 (.int .u64 0)), .agg (Array.replicate 36 (.int .u64 0))], []⟩ 8 (by kernel_rfl) (by kernel_rfl) (by kernel_rfl) (by kernel_rfl)) ?_
  intro W base args ds gs before hval0 hW _ _
  have hval : ∀ (j : Nat) t v, Try.f9.params[j]? = some t → args[j]? = some v → Value.okWide Try.prog W .any base t v := hval0
  have hW' := hW
  obtain ⟨p, q, hA0, hV, rfl, _, _⟩ := hW
  have hA : DataW.TrodAll enc Try.prog W 0 (fun _ => true) true Try.f9.params.toList args.toList ds p := hA0
  rw [Try.params9] at hA hval
  obtain ⟨v0, v1, v2, d0, d1, d2, p0, p1, p2, rfl, rfl, rfl, h0, h1, h2⟩ := trodAll_three hA
  obtain ⟨rfl, rfl⟩ := trodVars_none hV
  obtain ⟨c0, rfl, u0, l0, rfl, s0⟩ := open_flat 8 (by kernel_rfl) (by kernel_rfl) (hval 0 _ v0 rfl rfl) h0
  obtain ⟨x0, b0, rfl⟩ := u_n6 c0 u0 (l0.trans (by kernel_rfl))
  obtain ⟨c1, rfl, u1, l1, rfl, s1⟩ := open_flat 8 (by kernel_rfl) (by kernel_rfl) (hval 1 _ v1 rfl rfl) h1
  obtain ⟨x1, b1, rfl⟩ := u_n6 c1 u1 (l1.trans (by kernel_rfl))
  obtain ⟨c2, rfl, u2, l2, rfl, s2⟩ := open_flat 8 (by kernel_rfl) (by kernel_rfl) (hval 2 _ v2 rfl rfl) h2
  obtain ⟨x2, b2, rfl⟩ := u_n6 c2 u2 (l2.trans (by kernel_rfl))
  clear hA0 hval0
  simp only [List.append_nil] at hW'
  obtain ⟨v, hv, hrun⟩ := sextField_gives x0 x1 x2 b0 b1 b2
  simp only [AV.val?, Option.some.injEq] at hv
  subst hv
  refine (hrun W [_, _, _] ⟨rfl, rfl, rfl, trivial⟩).mono fun e W' ⟨he, hb⟩ => ?_
  subst he
  exact ⟨_, rfl, _, _, _, [], [], [], hW', trodAll_mk1 (shut_bool Try.underlying4 true), trodAll_mk3 (s0 _ _ _ _) (s1 _ _ _ _) (s2 _ _ _ _), rfl, hb.frame _, fun h => by cases h⟩

theorem sextField_holds : Rows.SextFieldSaid :=
  OpenClaim.holds_of_wide 9 Try.f9 rfl rfl rfl rfl rfl rfl rfl ⟨rfl, rfl, rfl, rfl, rfl⟩ rfl rfl rfl rfl rfl (by kernel_rfl) Try.func9 (by kernel_rfl)
    (of_decide_eq_true (by kernel_rfl)) (by unfold Func.isWrapper; first | (rw [if_pos (by decide +kernel)]; kernel_rfl) | (rw [if_neg (by decide +kernel)]; exact ⟨rfl, rfl⟩))
    (fun os started H enc _ => sextField_lifted os started H enc)
end Go.Proofs.Ytncnnngfemhaeaa
