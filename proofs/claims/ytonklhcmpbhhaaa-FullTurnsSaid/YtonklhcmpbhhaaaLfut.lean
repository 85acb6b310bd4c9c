/- Whatever two numbers A + B w are given, chirographlaw07.FullTurns says true: conjugates of sums and products. -/
import Derived.Test.YtonklhcmpbhhaaaPwT
import Derived.Test.YtonklhcmpbhhaaaRt
import Derived.Test.YtonklhcmpbhhaaaOpn
import Derived.Test.YtonklhcmpbhhaaaRows
set_option linter.unusedSimpArgs false
set_option linter.unusedVariables false
namespace Go.Proofs.Ytonklhcmpbhhaaa
open Go.Ev Go.ChangeShapes Go.WideShapes Go.ChangeAt Go.RowKit

theorem neg6_addn (x y : F6) : neg6 (add6 x y) = add6 (neg6 x) (neg6 y) := by
  have h : (-((x : G6) + (y : G6)) : G6) = -(x : G6) + -(y : G6) := by grind
  exact h
theorem conj12_add (a b : F12) : conj12 (add12 a b) = add12 (conj12 a) (conj12 b) := ext12 rfl (neg6_addn a.2 b.2)
theorem conj12_mul (a b : F12) : conj12 (mul12 a b) = mul12 (conj12 a) (conj12 b) := by
  have e1 : ∀ z : F12, ((conj12 z).1 : G6) = z.1 := fun _ => rfl
  have e2 : ∀ z : F12, ((conj12 z).2 : G6) = -(z.2 : G6) := fun _ => rfl
  refine ext12 ?_ ?_
  · rw [e1, mul12_1, mul12_1, e1, e1, e2, e2]; grind
  · rw [e2, mul12_2, mul12_2, e1, e1, e2, e2]; grind
theorem mul_conj12 (a : F12) : (mul12 a (conj12 a)).2 = zero6 := by
  have e1 : ((conj12 a).1 : G6) = a.1 := rfl
  have e2 : ((conj12 a).2 : G6) = -(a.2 : G6) := rfl
  have h : ((a.1 : G6) * (-(a.2 : G6)) + (a.2 : G6) * (a.1 : G6) : G6) = 0 := by grind
  rw [mul12_2, e1, e2]
  exact h
def wN : N12 := (((0, 0), (0, 0), (0, 0)), ((1, 0), (0, 0), (0, 0)))
theorem small_wN : small12 wN := by unfold small12 small6 small2 small wN; decide
theorem fullTurns_gives (a : N12) (b : N12) (ha : small12 a) (hb : small12 b) : Gives Try.prog 12 [.t (.ag (n12 a)), .t (.ag (n12 b))] (.v (.bool true)) :=
  fn_gives (P := Try.prog) (env := [eAl7, eUConj, eUAdd, eUMul, eUPow]) ⟨eAl7_ok, eUConj_ok, eUAdd_ok, eUMul_ok, eUPow_ok, trivial⟩ Try.func12 0 (oL [(10, hdO 52)]) (by kernel_rfl)
      (And.intro (show flat (q12 (pwT (of12 wN) 2)) = flat (List.replicate 12 (.c (.int .u64 0)) ++ .c (.int .u64 1) :: List.replicate 59 (.c (.int .u64 0))) from by kernel_rfl) 
      (And.intro (show sm12 (.inr wN) ∧ 2 < 18446744073709551616 ^ 6 from ⟨small_wN, by decide⟩) 
      (And.intro (show flat (q6 (mul12 (of12 a) (conj12 (of12 a))).2) = flat (List.replicate 36 (.c (.int .u64 0))) from by rw [mul_conj12]; exact zero_q6) 
      (And.intro (show sm12 (.inr a) ∧ sm12 (.inl (conj12 (of12 a))) from ⟨ha, trivial⟩) 
      (And.intro (show sm12 (.inr a) from ha) 
      (And.intro (show flat (q12 (conj12 (mul12 (of12 a) (of12 b)))) = flat (q12 (mul12 (conj12 (of12 a)) (conj12 (of12 b)))) from by rw [conj12_mul]) 
      (And.intro (show sm12 (.inl (conj12 (of12 a))) ∧ sm12 (.inl (conj12 (of12 b))) from ⟨trivial, trivial⟩) 
      (And.intro (show sm12 (.inr b) from hb) 
      (And.intro (show sm12 (.inr a) from ha) 
      (And.intro (show sm12 (.inl (mul12 (of12 a) (of12 b))) from trivial) 
      (And.intro (show sm12 (.inr a) ∧ sm12 (.inr b) from ⟨ha, hb⟩) 
      (And.intro (show flat (q12 (conj12 (add12 (of12 a) (of12 b)))) = flat (q12 (add12 (conj12 (of12 a)) (conj12 (of12 b)))) from by rw [conj12_add]) 
      (And.intro (show sm12 (.inl (conj12 (of12 a))) ∧ sm12 (.inl (conj12 (of12 b))) from ⟨trivial, trivial⟩) 
      (And.intro (show sm12 (.inr b) from hb) 
      (And.intro (show sm12 (.inr a) from ha) 
      (And.intro (show sm12 (.inl (add12 (of12 a) (of12 b))) from trivial) 
      (And.intro (show sm12 (.inr a) ∧ sm12 (.inr b) from ⟨ha, hb⟩) trivial)))))))))))))))))

theorem Try.own : ownKnob Try.prog.godebug = none := by kernel_rfl

set_option maxRecDepth 100000 in
theorem fullTurns_lifted (os : Os) (started : os.Started) (H : Type) (enc : TypeId × Value → H) :
    ReturnsInHanded {} Try.checked os 12 .any (Rows.fullTurnsSpec.pre6 enc Try.prog Try.f12 Rows.fullTurnsRow.domain false) (Rows.fullTurnsSpec.post enc Try.prog Try.f12 false true false false) := by
  refine returnsInHanded_of_change (C := Try.checked) Try.own started (by kernel_rfl) Try.func12
    (ChangeSpec.witness6 (enc := enc) (C := Try.checked) false ⟨#[], #[.agg (Array.replicate 72 (.int .u64 0)), .agg (Array.replicate 72 (.int .u64 0))], []⟩ 8 (by kernel_rfl) (by kernel_rfl) (by kernel_rfl) (by kernel_rfl)) ?_
  intro W base args ds gs before hval0 hW _ _
  have hval : ∀ (j : Nat) t v, Try.f12.params[j]? = some t → args[j]? = some v → Value.okWide Try.prog W .any base t v := hval0
  have hW' := hW
  obtain ⟨p, q, hA0, hV, rfl, _, _⟩ := hW
  have hA : DataW.TrodAll enc Try.prog W 0 (fun _ => true) true Try.f12.params.toList args.toList ds p := hA0
  rw [Try.params12] at hA hval
  obtain ⟨v0, v1, d0, d1, p0, p1, rfl, rfl, rfl, h0, h1⟩ := trodAll_two hA
  obtain ⟨rfl, rfl⟩ := trodVars_none hV
  obtain ⟨c0, rfl, u0, l0, rfl, s0⟩ := open_flat 8 (by kernel_rfl) (by kernel_rfl) (hval 0 _ v0 rfl rfl) h0
  obtain ⟨x0, b0, rfl⟩ := u_n12 c0 u0 (l0.trans (by kernel_rfl))
  obtain ⟨c1, rfl, u1, l1, rfl, s1⟩ := open_flat 8 (by kernel_rfl) (by kernel_rfl) (hval 1 _ v1 rfl rfl) h1
  obtain ⟨x1, b1, rfl⟩ := u_n12 c1 u1 (l1.trans (by kernel_rfl))
  clear hA0 hval0
  simp only [List.append_nil] at hW'
  obtain ⟨v, hv, hrun⟩ := fullTurns_gives x0 x1 b0 b1
  simp only [AV.val?, Option.some.injEq] at hv
  subst hv
  refine (hrun W [_, _] ⟨rfl, rfl, trivial⟩).mono fun e W' ⟨he, hb⟩ => ?_
  subst he
  exact ⟨_, rfl, _, _, _, [], [], [], hW', trodAll_mk1 (shut_bool Try.underlying4 true), trodAll_mk2 (s0 _ _ _ _) (s1 _ _ _ _), rfl, hb.frame _, fun h => by cases h⟩

theorem fullTurns_holds : Rows.FullTurnsSaid :=
  OpenClaim.holds_of_wide 12 Try.f12 rfl rfl rfl rfl rfl rfl rfl ⟨rfl, rfl, rfl, rfl, rfl⟩ rfl rfl rfl rfl rfl (by kernel_rfl) Try.func12 (by kernel_rfl)
    (of_decide_eq_true (by kernel_rfl)) (by unfold Func.isWrapper; first | (rw [if_pos (by decide +kernel)]; kernel_rfl) | (rw [if_neg (by decide +kernel)]; exact ⟨rfl, rfl⟩))
    (fun os started H enc _ => fullTurns_lifted os started H enc)
end Go.Proofs.Ytonklhcmpbhhaaa
