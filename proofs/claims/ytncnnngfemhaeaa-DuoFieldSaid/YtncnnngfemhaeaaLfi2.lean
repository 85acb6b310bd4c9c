/- Whatever three numbers A + B u are given, chirographlaw05.DuoField says true: the laws of a field. -/
import Derived.Test.YtncnnngfemhaeaaTo3
import Derived.Test.YtncnnngfemhaeaaRt
import Derived.Test.YtncnnngfemhaeaaOpn
import Derived.Test.YtncnnngfemhaeaaRows
set_option linter.unusedSimpArgs false
set_option linter.unusedVariables false
namespace Go.Proofs.Ytncnnngfemhaeaa
open Go.Ev Go.ChangeShapes Go.WideShapes Go.ChangeAt Go.RowKit

theorem add_sub2 (a b : F2) : sub2 (add2 a b) b = a := by refine ext2 ?_ ?_ <;> simp only [sub2, add2] <;> grind
theorem add_neg2 (a : F2) : add2 a (neg2 a) = (0, 0) := by rw [add2_comm, neg2_add]
def zN2 : N2 := (0, 0)
def oneN2 : N2 := (1, 0)
theorem small_zN2 : small2 zN2 := by unfold small2 small zN2; decide
theorem small_oneN2 : small2 oneN2 := by unfold small2 small oneN2; decide
theorem of_zN2 : of2 zN2 = (0, 0) := by decide
theorem of_oneN2 : of2 oneN2 = one2 := by decide
theorem const_one2 : flat (q2 one2) = flat (.c (.int .u64 1) :: List.replicate 11 (.c (.int .u64 0))) := by kernel_rfl
theorem duoField_z (a b c : N2) (ha : small2 a) (hb : small2 b) (hc : small2 c) (h : of2 a = (0, 0)) : Gives Try.prog 7 [.t (.ag (n2 a)), .t (.ag (n2 b)), .t (.ag (n2 c))] (.v (.bool true)) :=
  fn_gives (P := Try.prog) (env := [eAl5, eDClean, eDAdd, eDMul, eDInv, eDSub, eDNeg]) ⟨eAl5_ok, eDClean_ok, eDAdd_ok, eDMul_ok, eDInv_ok, eDSub_ok, eDNeg_ok, trivial⟩ Try.func7 0 (oL [(14, hdO 74), (88, hdO 33), (121, hdO 22)]) (by kernel_rfl)
      (And.intro (show flat (q2 (inv2 (of2 a))) = flat (q2 (of2 a)) from by rw [h, inv2_zero]) 
      (And.intro (show sm2 (.inr a) from ha) 
      (And.intro (show flat (q2 (of2 a)) = flat (List.replicate 12 (.c (.int .u64 0))) from by rw [h]; exact zero_q2) 
      (And.intro (show flat (q2 (sub2 (add2 (of2 a) (of2 b)) (of2 b))) = flat (q2 (of2 a)) from by rw [add_sub2]) 
      (And.intro (show sm2 (.inl (add2 (of2 a) (of2 b))) ∧ sm2 (.inr b) from ⟨trivial, hb⟩) 
      (And.intro (show sm2 (.inr a) ∧ sm2 (.inr b) from ⟨ha, hb⟩) 
      (And.intro (show flat (q2 (add2 (of2 a) (neg2 (of2 a)))) = flat (List.replicate 12 (.c (.int .u64 0))) from by rw [add_neg2]; exact zero_q2) 
      (And.intro (show sm2 (.inr a) ∧ sm2 (.inl (neg2 (of2 a))) from ⟨ha, trivial⟩) 
      (And.intro (show sm2 (.inr a) from ha) 
      (And.intro (show flat (q2 (mul2 (of2 a) (of2 oneN2))) = flat (q2 (of2 a)) from by rw [of_oneN2, mul2_one]) 
      (And.intro (show sm2 (.inr a) ∧ sm2 (.inr oneN2) from ⟨ha, small_oneN2⟩) 
      (And.intro (show flat (q2 (add2 (of2 a) (of2 zN2))) = flat (q2 (of2 a)) from by rw [of_zN2, add2_zero]) 
      (And.intro (show sm2 (.inr a) ∧ sm2 (.inr zN2) from ⟨ha, small_zN2⟩) 
      (And.intro (show flat (q2 (mul2 (of2 a) (add2 (of2 b) (of2 c)))) = flat (q2 (add2 (mul2 (of2 a) (of2 b)) (mul2 (of2 a) (of2 c)))) from by rw [mul2_add]) 
      (And.intro (show sm2 (.inl (mul2 (of2 a) (of2 b))) ∧ sm2 (.inl (mul2 (of2 a) (of2 c))) from ⟨trivial, trivial⟩) 
      (And.intro (show sm2 (.inr a) ∧ sm2 (.inr c) from ⟨ha, hc⟩) 
      (And.intro (show sm2 (.inr a) ∧ sm2 (.inr b) from ⟨ha, hb⟩) 
      (And.intro (show sm2 (.inr a) ∧ sm2 (.inl (add2 (of2 b) (of2 c))) from ⟨ha, trivial⟩) 
      (And.intro (show sm2 (.inr b) ∧ sm2 (.inr c) from ⟨hb, hc⟩) 
      (And.intro (show flat (q2 (mul2 (mul2 (of2 a) (of2 b)) (of2 c))) = flat (q2 (mul2 (of2 a) (mul2 (of2 b) (of2 c)))) from by rw [mul2_assoc]) 
      (And.intro (show sm2 (.inr a) ∧ sm2 (.inl (mul2 (of2 b) (of2 c))) from ⟨ha, trivial⟩) 
      (And.intro (show sm2 (.inr b) ∧ sm2 (.inr c) from ⟨hb, hc⟩) 
      (And.intro (show sm2 (.inl (mul2 (of2 a) (of2 b))) ∧ sm2 (.inr c) from ⟨trivial, hc⟩) 
      (And.intro (show sm2 (.inr a) ∧ sm2 (.inr b) from ⟨ha, hb⟩) 
      (And.intro (show flat (q2 (add2 (add2 (of2 a) (of2 b)) (of2 c))) = flat (q2 (add2 (of2 a) (add2 (of2 b) (of2 c)))) from by rw [add2_assoc]) 
      (And.intro (show sm2 (.inr a) ∧ sm2 (.inl (add2 (of2 b) (of2 c))) from ⟨ha, trivial⟩) 
      (And.intro (show sm2 (.inr b) ∧ sm2 (.inr c) from ⟨hb, hc⟩) 
      (And.intro (show sm2 (.inl (add2 (of2 a) (of2 b))) ∧ sm2 (.inr c) from ⟨trivial, hc⟩) 
      (And.intro (show sm2 (.inr a) ∧ sm2 (.inr b) from ⟨ha, hb⟩) 
      (And.intro (show flat (q2 (mul2 (of2 a) (of2 b))) = flat (q2 (mul2 (of2 b) (of2 a))) from by rw [mul2_comm]) 
      (And.intro (show sm2 (.inr b) ∧ sm2 (.inr a) from ⟨hb, ha⟩) 
      (And.intro (show sm2 (.inr a) ∧ sm2 (.inr b) from ⟨ha, hb⟩) 
      (And.intro (show flat (q2 (add2 (of2 a) (of2 b))) = flat (q2 (add2 (of2 b) (of2 a))) from by rw [add2_comm]) 
      (And.intro (show sm2 (.inr b) ∧ sm2 (.inr a) from ⟨hb, ha⟩) 
      (And.intro (show sm2 (.inr a) ∧ sm2 (.inr b) from ⟨ha, hb⟩) 
      (And.intro (show sm2 (.inr a) from ha) trivial))))))))))))))))))))))))))))))))))))

theorem duoField_n (a b c : N2) (ha : small2 a) (hb : small2 b) (hc : small2 c) (h : of2 a ≠ (0, 0)) : Gives Try.prog 7 [.t (.ag (n2 a)), .t (.ag (n2 b)), .t (.ag (n2 c))] (.v (.bool true)) :=
  fn_gives (P := Try.prog) (env := [eAl5, eDClean, eDAdd, eDMul, eDInv, eDSub, eDNeg]) ⟨eAl5_ok, eDClean_ok, eDAdd_ok, eDMul_ok, eDInv_ok, eDSub_ok, eDNeg_ok, trivial⟩ Try.func7 0 (oL [(125, wO 1), (14, hdO 74), (88, hdO 33), (121, hdO 22)]) (by kernel_rfl)
      (And.intro (show flat (q2 (mul2 (of2 a) (inv2 (of2 a)))) = flat (.c (.int .u64 1) :: List.replicate 11 (.c (.int .u64 0))) from by rw [inv2_mul h]; exact const_one2) 
      (And.intro (show sm2 (.inr a) ∧ sm2 (.inl (inv2 (of2 a))) from ⟨ha, trivial⟩) 
      (And.intro (show sm2 (.inr a) from ha) 
      (And.intro (show ¬ flat (q2 (of2 a)) = flat (List.replicate 12 (.c (.int .u64 0))) from fun e => h (q2_inj (e.trans zero_q2.symm))) 
      (And.intro (show flat (q2 (sub2 (add2 (of2 a) (of2 b)) (of2 b))) = flat (q2 (of2 a)) from by rw [add_sub2]) 
      (And.intro (show sm2 (.inl (add2 (of2 a) (of2 b))) ∧ sm2 (.inr b) from ⟨trivial, hb⟩) 
      (And.intro (show sm2 (.inr a) ∧ sm2 (.inr b) from ⟨ha, hb⟩) 
      (And.intro (show flat (q2 (add2 (of2 a) (neg2 (of2 a)))) = flat (List.replicate 12 (.c (.int .u64 0))) from by rw [add_neg2]; exact zero_q2) 
      (And.intro (show sm2 (.inr a) ∧ sm2 (.inl (neg2 (of2 a))) from ⟨ha, trivial⟩) 
      (And.intro (show sm2 (.inr a) from ha) 
      (And.intro (show flat (q2 (mul2 (of2 a) (of2 oneN2))) = flat (q2 (of2 a)) from by rw [of_oneN2, mul2_one]) 
      (And.intro (show sm2 (.inr a) ∧ sm2 (.inr oneN2) from ⟨ha, small_oneN2⟩) 
      (And.intro (show flat (q2 (add2 (of2 a) (of2 zN2))) = flat (q2 (of2 a)) from by rw [of_zN2, add2_zero]) 
      (And.intro (show sm2 (.inr a) ∧ sm2 (.inr zN2) from ⟨ha, small_zN2⟩) 
      (And.intro (show flat (q2 (mul2 (of2 a) (add2 (of2 b) (of2 c)))) = flat (q2 (add2 (mul2 (of2 a) (of2 b)) (mul2 (of2 a) (of2 c)))) from by rw [mul2_add]) 
      (And.intro (show sm2 (.inl (mul2 (of2 a) (of2 b))) ∧ sm2 (.inl (mul2 (of2 a) (of2 c))) from ⟨trivial, trivial⟩) 
      (And.intro (show sm2 (.inr a) ∧ sm2 (.inr c) from ⟨ha, hc⟩) 
      (And.intro (show sm2 (.inr a) ∧ sm2 (.inr b) from ⟨ha, hb⟩) 
      (And.intro (show sm2 (.inr a) ∧ sm2 (.inl (add2 (of2 b) (of2 c))) from ⟨ha, trivial⟩) 
      (And.intro (show sm2 (.inr b) ∧ sm2 (.inr c) from ⟨hb, hc⟩) 
      (And.intro (show flat (q2 (mul2 (mul2 (of2 a) (of2 b)) (of2 c))) = flat (q2 (mul2 (of2 a) (mul2 (of2 b) (of2 c)))) from by rw [mul2_assoc]) 
      (And.intro (show sm2 (.inr a) ∧ sm2 (.inl (mul2 (of2 b) (of2 c))) from ⟨ha, trivial⟩) 
      (And.intro (show sm2 (.inr b) ∧ sm2 (.inr c) from ⟨hb, hc⟩) 
      (And.intro (show sm2 (.inl (mul2 (of2 a) (of2 b))) ∧ sm2 (.inr c) from ⟨trivial, hc⟩) 
      (And.intro (show sm2 (.inr a) ∧ sm2 (.inr b) from ⟨ha, hb⟩) 
      (And.intro (show flat (q2 (add2 (add2 (of2 a) (of2 b)) (of2 c))) = flat (q2 (add2 (of2 a) (add2 (of2 b) (of2 c)))) from by rw [add2_assoc]) 
      (And.intro (show sm2 (.inr a) ∧ sm2 (.inl (add2 (of2 b) (of2 c))) from ⟨ha, trivial⟩) 
      (And.intro (show sm2 (.inr b) ∧ sm2 (.inr c) from ⟨hb, hc⟩) 
      (And.intro (show sm2 (.inl (add2 (of2 a) (of2 b))) ∧ sm2 (.inr c) from ⟨trivial, hc⟩) 
      (And.intro (show sm2 (.inr a) ∧ sm2 (.inr b) from ⟨ha, hb⟩) 
      (And.intro (show flat (q2 (mul2 (of2 a) (of2 b))) = flat (q2 (mul2 (of2 b) (of2 a))) from by rw [mul2_comm]) 
      (And.intro (show sm2 (.inr b) ∧ sm2 (.inr a) from ⟨hb, ha⟩) 
      (And.intro (show sm2 (.inr a) ∧ sm2 (.inr b) from ⟨ha, hb⟩) 
      (And.intro (show flat (q2 (add2 (of2 a) (of2 b))) = flat (q2 (add2 (of2 b) (of2 a))) from by rw [add2_comm]) 
      (And.intro (show sm2 (.inr b) ∧ sm2 (.inr a) from ⟨hb, ha⟩) 
      (And.intro (show sm2 (.inr a) ∧ sm2 (.inr b) from ⟨ha, hb⟩) 
      (And.intro (show sm2 (.inr a) from ha) trivial)))))))))))))))))))))))))))))))))))))

theorem duoField_gives (a b c : N2) (ha : small2 a) (hb : small2 b) (hc : small2 c) : Gives Try.prog 7 [.t (.ag (n2 a)), .t (.ag (n2 b)), .t (.ag (n2 c))] (.v (.bool true)) := by
  by_cases h : of2 a = (0, 0)
  · exact duoField_z a b c ha hb hc h
  · exact duoField_n a b c ha hb hc h

theorem Try.own : ownKnob Try.prog.godebug = none := by kernel_rfl

set_option maxRecDepth 100000 in
theorem duoField_lifted (os : Os) (started : os.Started) (H : Type) (enc : TypeId × Value → H) :
    ReturnsInHanded {} Try.checked os 7 .any (Rows.duoFieldSpec.pre6 enc Try.prog Try.f7 Rows.duoFieldRow.domain false) (Rows.duoFieldSpec.post enc Try.prog Try.f7 false true false false) := by
  refine returnsInHanded_of_change (C := Try.checked) Try.own started (by kernel_rfl) Try.func7
    (ChangeSpec.witness6 (enc := enc) (C := Try.checked) false ⟨#[], #[.agg (Array.replicate 12 (.int .u64 0)), .agg (Array.replicate 12 (.int .u64 0)), .agg (Array.replicate 12 (.int .u64 0))], []⟩ 8 (by kernel_rfl) (by kernel_rfl) (by kernel_rfl) (by kernel_rfl)) ?_
  intro W base args ds gs before hval0 hW _ _
  have hval : ∀ (j : Nat) t v, Try.f7.params[j]? = some t → args[j]? = some v → Value.okWide Try.prog W .any base t v := hval0
  have hW' := hW
  obtain ⟨p, q, hA0, hV, rfl, _, _⟩ := hW
  have hA : DataW.TrodAll enc Try.prog W 0 (fun _ => true) true Try.f7.params.toList args.toList ds p := hA0
  rw [Try.params7] at hA hval
  obtain ⟨v0, v1, v2, d0, d1, d2, p0, p1, p2, rfl, rfl, rfl, h0, h1, h2⟩ := trodAll_three hA
  obtain ⟨rfl, rfl⟩ := trodVars_none hV
  obtain ⟨c0, rfl, u0, l0, rfl, s0⟩ := open_flat 8 (by kernel_rfl) (by kernel_rfl) (hval 0 _ v0 rfl rfl) h0
  obtain ⟨x0, b0, rfl⟩ := u_n2' c0 u0 (l0.trans (by kernel_rfl))
  obtain ⟨c1, rfl, u1, l1, rfl, s1⟩ := open_flat 8 (by kernel_rfl) (by kernel_rfl) (hval 1 _ v1 rfl rfl) h1
  obtain ⟨x1, b1, rfl⟩ := u_n2' c1 u1 (l1.trans (by kernel_rfl))
  obtain ⟨c2, rfl, u2, l2, rfl, s2⟩ := open_flat 8 (by kernel_rfl) (by kernel_rfl) (hval 2 _ v2 rfl rfl) h2
  obtain ⟨x2, b2, rfl⟩ := u_n2' c2 u2 (l2.trans (by kernel_rfl))
  clear hA0 hval0
  simp only [List.append_nil] at hW'
  obtain ⟨v, hv, hrun⟩ := duoField_gives x0 x1 x2 b0 b1 b2
  simp only [AV.val?, Option.some.injEq] at hv
  subst hv
  refine (hrun W [_, _, _] ⟨rfl, rfl, rfl, trivial⟩).mono fun e W' ⟨he, hb⟩ => ?_
  subst he
  exact ⟨_, rfl, _, _, _, [], [], [], hW', trodAll_mk1 (shut_bool Try.underlying4 true), trodAll_mk3 (s0 _ _ _ _) (s1 _ _ _ _) (s2 _ _ _ _), rfl, hb.frame _, fun h => by cases h⟩

theorem duoField_holds : Rows.DuoFieldSaid :=
  OpenClaim.holds_of_wide 7 Try.f7 rfl rfl rfl rfl rfl rfl rfl ⟨rfl, rfl, rfl, rfl, rfl⟩ rfl rfl rfl rfl rfl (by kernel_rfl) Try.func7 (by kernel_rfl)
    (of_decide_eq_true (by kernel_rfl)) (by unfold Func.isWrapper; first | (rw [if_pos (by decide +kernel)]; kernel_rfl) | (rw [if_neg (by decide +kernel)]; exact ⟨rfl, rfl⟩))
    (fun os started H enc _ => duoField_lifted os started H enc)
end Go.Proofs.Ytncnnngfemhaeaa
