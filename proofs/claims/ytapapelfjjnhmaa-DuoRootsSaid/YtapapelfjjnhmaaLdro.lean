/- Whatever number A + B u is given, chirographlaw05.DuoRoots says true: which are high, and which have which root. -/
import Derived.Test.YtapapelfjjnhmaaRo2
import Derived.Test.YtapapelfjjnhmaaOpn
import Derived.Test.YtapapelfjjnhmaaRows
set_option linter.unusedSimpArgs false
set_option linter.unusedVariables false
namespace Go.Proofs.Ytapapelfjjnhmaa
open Go.Ev Go.ChangeShapes Go.WideShapes Go.ChangeAt Go.RowKit

theorem duoRoots_11 (a : N2) (ha : small2 a) (hs : sq2 (of2 a)) (hh : hi2 (of2 a)) : Gives Try.prog 5 [.t (.ag (n2 a))] (.v (.bool true)) :=
  fn_gives (P := Try.prog) (env := [eAl5, eClean2, eDRoot, eDHigh, eHigh2r, eRight2, eMul2r, eSq2r]) ⟨eAl5_ok, eClean2_ok, eDRoot_ok, eDHigh_ok, eHigh2r_ok, eRight2_ok, eMul2r_ok, eSq2r_ok, trivial⟩ Try.func5 0 (oL [(15, wO 0), (17, wO 0), (36, wO 1)]) (by kernel_rfl)
      (And.intro (show ¬ hi2 (rt2 (of2 a)) from not_hi_low2 _) 
      (And.intro (show flat (q2 (mul2 (rt2 (of2 a)) (rt2 (of2 a)))) = flat (q2 (of2 a)) from by rw [rt2_sq hs]) 
      (And.intro (show hi2 (of2 a) from hh) 
      (And.intro (show sm2 (.inr a) ∧ hi2 (of2 a) from ⟨ha, hh⟩) 
      (And.intro (show sm2 (.inr a) ∧ sq2 (of2 a) from ⟨ha, hs⟩) 
      (And.intro (show small2 a from ha) trivial))))))

theorem duoRoots_10 (a : N2) (ha : small2 a) (hs : sq2 (of2 a)) (hh : ¬ hi2 (of2 a)) : Gives Try.prog 5 [.t (.ag (n2 a))] (.v (.bool true)) :=
  fn_gives (P := Try.prog) (env := [eAl5, eClean2, eDRoot, eDHigh, eHigh2r, eRight2, eMul2r, eSq2r]) ⟨eAl5_ok, eClean2_ok, eDRoot_ok, eDHigh_ok, eHigh2r_ok, eRight2_ok, eMul2r_ok, eSq2r_ok, trivial⟩ Try.func5 0 (oL [(15, wO 1), (17, wO 1), (36, wO 1)]) (by kernel_rfl)
      (And.intro (show ¬ hi2 (rt2 (of2 a)) from not_hi_low2 _) 
      (And.intro (show flat (q2 (mul2 (rt2 (of2 a)) (rt2 (of2 a)))) = flat (q2 (of2 a)) from by rw [rt2_sq hs]) 
      (And.intro (show ¬ hi2 (of2 a) from hh) 
      (And.intro (show sm2 (.inr a) ∧ ¬ hi2 (of2 a) from ⟨ha, hh⟩) 
      (And.intro (show sm2 (.inr a) ∧ sq2 (of2 a) from ⟨ha, hs⟩) 
      (And.intro (show small2 a from ha) trivial))))))

theorem duoRoots_01 (a : N2) (ha : small2 a) (hs : ¬ sq2 (of2 a)) (hh : hi2 (of2 a)) : Gives Try.prog 5 [.t (.ag (n2 a))] (.v (.bool true)) :=
  fn_gives (P := Try.prog) (env := [eAl5, eClean2, eDRoot, eDHigh, eHigh2r, eRight2, eMul2r, eSq2r]) ⟨eAl5_ok, eClean2_ok, eDRoot_ok, eDHigh_ok, eHigh2r_ok, eRight2_ok, eMul2r_ok, eSq2r_ok, trivial⟩ Try.func5 0 (oL [(15, wO 0), (17, wO 0), (7, wO 1), (34, wO 1)]) (by kernel_rfl)
      (And.intro (show ¬ sq2 (of2 a) from hs) 
      (And.intro (show flat (List.replicate 12 (.c (.int .u64 0))) = flat (List.replicate 12 (.c (.int .u64 0))) from rfl) 
      (And.intro (show hi2 (of2 a) from hh) 
      (And.intro (show sm2 (.inr a) ∧ hi2 (of2 a) from ⟨ha, hh⟩) 
      (And.intro (show sm2 (.inr a) ∧ ¬ sq2 (of2 a) from ⟨ha, hs⟩) 
      (And.intro (show small2 a from ha) trivial))))))

theorem duoRoots_00 (a : N2) (ha : small2 a) (hs : ¬ sq2 (of2 a)) (hh : ¬ hi2 (of2 a)) : Gives Try.prog 5 [.t (.ag (n2 a))] (.v (.bool true)) :=
  fn_gives (P := Try.prog) (env := [eAl5, eClean2, eDRoot, eDHigh, eHigh2r, eRight2, eMul2r, eSq2r]) ⟨eAl5_ok, eClean2_ok, eDRoot_ok, eDHigh_ok, eHigh2r_ok, eRight2_ok, eMul2r_ok, eSq2r_ok, trivial⟩ Try.func5 0 (oL [(15, wO 1), (17, wO 1), (7, wO 1), (34, wO 1)]) (by kernel_rfl)
      (And.intro (show ¬ sq2 (of2 a) from hs) 
      (And.intro (show flat (List.replicate 12 (.c (.int .u64 0))) = flat (List.replicate 12 (.c (.int .u64 0))) from rfl) 
      (And.intro (show ¬ hi2 (of2 a) from hh) 
      (And.intro (show sm2 (.inr a) ∧ ¬ hi2 (of2 a) from ⟨ha, hh⟩) 
      (And.intro (show sm2 (.inr a) ∧ ¬ sq2 (of2 a) from ⟨ha, hs⟩) 
      (And.intro (show small2 a from ha) trivial))))))

theorem duoRoots_gives (a : N2) (ha : small2 a) : Gives Try.prog 5 [.t (.ag (n2 a))] (.v (.bool true)) := by
  by_cases hs : sq2 (of2 a) <;> by_cases hh : hi2 (of2 a)
  · exact duoRoots_11 a ha hs hh
  · exact duoRoots_10 a ha hs hh
  · exact duoRoots_01 a ha hs hh
  · exact duoRoots_00 a ha hs hh

theorem Try.own : ownKnob Try.prog.godebug = none := by kernel_rfl

set_option maxRecDepth 100000 in
theorem duoRoots_lifted (os : Os) (started : os.Started) (H : Type) (enc : TypeId × Value → H) :
    ReturnsInHanded {} Try.checked os 5 .any (Rows.duoRootsSpec.pre6 enc Try.prog Try.f5 Rows.duoRootsRow.domain false) (Rows.duoRootsSpec.post enc Try.prog Try.f5 false true false false) := by
  refine returnsInHanded_of_change (C := Try.checked) Try.own started (by kernel_rfl) Try.func5
    (ChangeSpec.witness6 (enc := enc) (C := Try.checked) false ⟨#[], #[.agg (Array.replicate 12 (.int .u64 0))], []⟩ 8 (by kernel_rfl) (by kernel_rfl) (by kernel_rfl) (by kernel_rfl)) ?_
  intro W base args ds gs before hval0 hW _ _
  have hval : ∀ (j : Nat) t v, Try.f5.params[j]? = some t → args[j]? = some v → Value.okWide Try.prog W .any base t v := hval0
  have hW' := hW
  obtain ⟨p, q, hA0, hV, rfl, _, _⟩ := hW
  have hA : DataW.TrodAll enc Try.prog W 0 (fun _ => true) true Try.f5.params.toList args.toList ds p := hA0
  rw [Try.params5] at hA hval
  obtain ⟨v0, d0, rfl, rfl, h0⟩ := trodAll_one hA
  obtain ⟨rfl, rfl⟩ := trodVars_none hV
  obtain ⟨c0, rfl, u0, l0, rfl, s0⟩ := open_flat 8 (by kernel_rfl) (by kernel_rfl) (hval 0 _ v0 rfl rfl) h0
  obtain ⟨x0, b0, rfl⟩ := u_n2' c0 u0 (l0.trans (by kernel_rfl))
  clear hA0 hval0
  simp only [List.append_nil] at hW'
  obtain ⟨v, hv, hrun⟩ := duoRoots_gives x0 b0
  simp only [AV.val?, Option.some.injEq] at hv
  subst hv
  refine (hrun W [_] ⟨rfl, trivial⟩).mono fun e W' ⟨he, hb⟩ => ?_
  subst he
  exact ⟨_, rfl, _, _, _, [], [], [], hW', trodAll_mk1 (shut_bool Try.underlying4 true), trodAll_mk1 (s0 _ _ _ _), rfl, hb.frame _, fun h => by cases h⟩

theorem duoRoots_holds : Rows.DuoRootsSaid :=
  OpenClaim.holds_of_wide 5 Try.f5 rfl rfl rfl rfl rfl rfl rfl ⟨rfl, rfl, rfl, rfl, rfl⟩ rfl rfl rfl rfl rfl (by kernel_rfl) Try.func5 (by kernel_rfl)
    (of_decide_eq_true (by kernel_rfl)) (by unfold Func.isWrapper; first | (rw [if_pos (by decide +kernel)]; kernel_rfl) | (rw [if_neg (by decide +kernel)]; exact ⟨rfl, rfl⟩))
    (fun os started H enc _ => duoRoots_lifted os started H enc)
end Go.Proofs.Ytapapelfjjnhmaa
