/- Whatever number is given, chirographlaw04.FpRoots says true: which are high, and which have which root. -/
import Derived.Test.YtncnnngfemhaeaaRo
import Derived.Test.YtncnnngfemhaeaaOpn
import Derived.Test.YtncnnngfemhaeaaRows
set_option linter.unusedSimpArgs false
set_option linter.unusedVariables false
namespace Go.Proofs.Ytncnnngfemhaeaa
open Go.Ev Go.ChangeShapes Go.WideShapes Go.ChangeAt Go.RowKit

theorem fpRoots_11 (a : Nat) (ha : a < 39402006196394479212279040100143613805079739270465446667948293404245721771497210611414266254884915640806627990306816) (hs : sqP (ofP a)) (hh : hiP (ofP a)) : Gives Try.prog 12 [.t (.ag [.n 6 a])] (.v (.bool true)) :=
  fn_gives (P := Try.prog) (env := [eAlP, eCleanP, eFRootP, eFHighP, eHighPr, eRRP, eLessP, eMulPr, eSquareP]) ⟨eAlP_ok, eCleanP_ok, eFRootP_ok, eFHighP_ok, eHighPr_ok, eRRP_ok, eLessP_ok, eMulPr_ok, eSquareP_ok, trivial⟩ Try.func12 0 (oL [(15, wO 0), (17, wO 0), (37, wO 1)]) (by kernel_rfl)
      (And.intro (show ¬ hiP (lowP (rtP (ofP a))) from not_hi_low _) 
      (And.intro (show flat [.q ((lowP (rtP (ofP a))) * (lowP (rtP (ofP a))))] = flat [.q (ofP a)] from by rw [low_sq, show rtP (ofP a) * rtP (ofP a) = (ofP a) from hs]) 
      (And.intro (show (lowP (rtP (ofP a))).val < 39402006196394479212279040100143613805079739270465446667948293404245721771497210611414266254884915640806627990306816 ∧ 4002409555221667393417789825735904156556882819939007885332058136124031650490837864442687629129015664037894272559787 < 39402006196394479212279040100143613805079739270465446667948293404245721771497210611414266254884915640806627990306816 ∧ (lowP (rtP (ofP a))).val < 4002409555221667393417789825735904156556882819939007885332058136124031650490837864442687629129015664037894272559787 from ⟨Nat.lt_trans (lowP (rtP (ofP a))).isLt (by decide), by decide, (lowP (rtP (ofP a))).isLt⟩) 
      (And.intro (show hiP (ofP a) from hh) 
      (And.intro (show smtP (.inr a) ∧ hiP (ofP a) from ⟨ha, hh⟩) 
      (And.intro (show smtP (.inr a) ∧ sqP (ofP a) from ⟨ha, hs⟩) 
      (And.intro (show a < 39402006196394479212279040100143613805079739270465446667948293404245721771497210611414266254884915640806627990306816 from ha) trivial)))))))

theorem fpRoots_10 (a : Nat) (ha : a < 39402006196394479212279040100143613805079739270465446667948293404245721771497210611414266254884915640806627990306816) (hs : sqP (ofP a)) (hh : ¬ hiP (ofP a)) : Gives Try.prog 12 [.t (.ag [.n 6 a])] (.v (.bool true)) :=
  fn_gives (P := Try.prog) (env := [eAlP, eCleanP, eFRootP, eFHighP, eHighPr, eRRP, eLessP, eMulPr, eSquareP]) ⟨eAlP_ok, eCleanP_ok, eFRootP_ok, eFHighP_ok, eHighPr_ok, eRRP_ok, eLessP_ok, eMulPr_ok, eSquareP_ok, trivial⟩ Try.func12 0 (oL [(15, wO 1), (17, wO 1), (37, wO 1)]) (by kernel_rfl)
      (And.intro (show ¬ hiP (lowP (rtP (ofP a))) from not_hi_low _) 
      (And.intro (show flat [.q ((lowP (rtP (ofP a))) * (lowP (rtP (ofP a))))] = flat [.q (ofP a)] from by rw [low_sq, show rtP (ofP a) * rtP (ofP a) = (ofP a) from hs]) 
      (And.intro (show (lowP (rtP (ofP a))).val < 39402006196394479212279040100143613805079739270465446667948293404245721771497210611414266254884915640806627990306816 ∧ 4002409555221667393417789825735904156556882819939007885332058136124031650490837864442687629129015664037894272559787 < 39402006196394479212279040100143613805079739270465446667948293404245721771497210611414266254884915640806627990306816 ∧ (lowP (rtP (ofP a))).val < 4002409555221667393417789825735904156556882819939007885332058136124031650490837864442687629129015664037894272559787 from ⟨Nat.lt_trans (lowP (rtP (ofP a))).isLt (by decide), by decide, (lowP (rtP (ofP a))).isLt⟩) 
      (And.intro (show ¬ hiP (ofP a) from hh) 
      (And.intro (show smtP (.inr a) ∧ ¬ hiP (ofP a) from ⟨ha, hh⟩) 
      (And.intro (show smtP (.inr a) ∧ sqP (ofP a) from ⟨ha, hs⟩) 
      (And.intro (show a < 39402006196394479212279040100143613805079739270465446667948293404245721771497210611414266254884915640806627990306816 from ha) trivial)))))))

theorem fpRoots_01 (a : Nat) (ha : a < 39402006196394479212279040100143613805079739270465446667948293404245721771497210611414266254884915640806627990306816) (hs : ¬ sqP (ofP a)) (hh : hiP (ofP a)) : Gives Try.prog 12 [.t (.ag [.n 6 a])] (.v (.bool true)) :=
  fn_gives (P := Try.prog) (env := [eAlP, eCleanP, eFRootP, eFHighP, eHighPr, eRRP, eLessP, eMulPr, eSquareP]) ⟨eAlP_ok, eCleanP_ok, eFRootP_ok, eFHighP_ok, eHighPr_ok, eRRP_ok, eLessP_ok, eMulPr_ok, eSquareP_ok, trivial⟩ Try.func12 0 (oL [(15, wO 0), (17, wO 0), (7, wO 1), (34, wO 1)]) (by kernel_rfl)
      (And.intro (show ¬ sqP (ofP a) from hs) 
      (And.intro (show flat [.c (.int .u64 0), .c (.int .u64 0), .c (.int .u64 0), .c (.int .u64 0), .c (.int .u64 0), .c (.int .u64 0)] = flat [.c (.int .u64 0), .c (.int .u64 0), .c (.int .u64 0), .c (.int .u64 0), .c (.int .u64 0), .c (.int .u64 0)] from rfl) 
      (And.intro (show hiP (ofP a) from hh) 
      (And.intro (show smtP (.inr a) ∧ hiP (ofP a) from ⟨ha, hh⟩) 
      (And.intro (show smtP (.inr a) ∧ ¬ sqP (ofP a) from ⟨ha, hs⟩) 
      (And.intro (show a < 39402006196394479212279040100143613805079739270465446667948293404245721771497210611414266254884915640806627990306816 from ha) trivial))))))

theorem fpRoots_00 (a : Nat) (ha : a < 39402006196394479212279040100143613805079739270465446667948293404245721771497210611414266254884915640806627990306816) (hs : ¬ sqP (ofP a)) (hh : ¬ hiP (ofP a)) : Gives Try.prog 12 [.t (.ag [.n 6 a])] (.v (.bool true)) :=
  fn_gives (P := Try.prog) (env := [eAlP, eCleanP, eFRootP, eFHighP, eHighPr, eRRP, eLessP, eMulPr, eSquareP]) ⟨eAlP_ok, eCleanP_ok, eFRootP_ok, eFHighP_ok, eHighPr_ok, eRRP_ok, eLessP_ok, eMulPr_ok, eSquareP_ok, trivial⟩ Try.func12 0 (oL [(15, wO 1), (17, wO 1), (7, wO 1), (34, wO 1)]) (by kernel_rfl)
      (And.intro (show ¬ sqP (ofP a) from hs) 
      (And.intro (show flat [.c (.int .u64 0), .c (.int .u64 0), .c (.int .u64 0), .c (.int .u64 0), .c (.int .u64 0), .c (.int .u64 0)] = flat [.c (.int .u64 0), .c (.int .u64 0), .c (.int .u64 0), .c (.int .u64 0), .c (.int .u64 0), .c (.int .u64 0)] from rfl) 
      (And.intro (show ¬ hiP (ofP a) from hh) 
      (And.intro (show smtP (.inr a) ∧ ¬ hiP (ofP a) from ⟨ha, hh⟩) 
      (And.intro (show smtP (.inr a) ∧ ¬ sqP (ofP a) from ⟨ha, hs⟩) 
      (And.intro (show a < 39402006196394479212279040100143613805079739270465446667948293404245721771497210611414266254884915640806627990306816 from ha) trivial))))))

theorem fpRoots_gives (a : Nat) (ha : a < 39402006196394479212279040100143613805079739270465446667948293404245721771497210611414266254884915640806627990306816) : Gives Try.prog 12 [.t (.ag [.n 6 a])] (.v (.bool true)) := by
  by_cases hs : sqP (ofP a) <;> by_cases hh : hiP (ofP a)
  · exact fpRoots_11 a ha hs hh
  · exact fpRoots_10 a ha hs hh
  · exact fpRoots_01 a ha hs hh
  · exact fpRoots_00 a ha hs hh

theorem Try.own : ownKnob Try.prog.godebug = none := by kernel_rfl

set_option maxRecDepth 100000 in
theorem fpRoots_lifted (os : Os) (started : os.Started) (H : Type) (enc : TypeId × Value → H) :
    ReturnsInHanded {} Try.checked os 12 .any (Rows.fpRootsSpec.pre6 enc Try.prog Try.f12 Rows.fpRootsRow.domain false) (Rows.fpRootsSpec.post enc Try.prog Try.f12 false true false false) := by
  refine returnsInHanded_of_change (C := Try.checked) Try.own started (by kernel_rfl) Try.func12
    (ChangeSpec.witness6 (enc := enc) (C := Try.checked) false ⟨#[], #[.agg (Array.replicate 6 (.int .u64 0))], []⟩ 8 (by kernel_rfl) (by kernel_rfl) (by kernel_rfl) (by kernel_rfl)) ?_
  intro W base args ds gs before hval0 hW _ _
  have hval : ∀ (j : Nat) t v, Try.f12.params[j]? = some t → args[j]? = some v → Value.okWide Try.prog W .any base t v := hval0
  have hW' := hW
  obtain ⟨p, q, hA0, hV, rfl, _, _⟩ := hW
  have hA : DataW.TrodAll enc Try.prog W 0 (fun _ => true) true Try.f12.params.toList args.toList ds p := hA0
  rw [Try.params12] at hA hval
  obtain ⟨v0, d0, rfl, rfl, h0⟩ := trodAll_one hA
  obtain ⟨rfl, rfl⟩ := trodVars_none hV
  obtain ⟨c0, rfl, u0, l0, rfl, s0⟩ := open_flat 8 (by kernel_rfl) (by kernel_rfl) (hval 0 _ v0 rfl rfl) h0
  obtain ⟨x0, b0, rfl⟩ := u_limbs 6 c0 u0 (l0.trans (by kernel_rfl))
  replace b0 := Nat.lt_of_lt_of_eq b0 (show _ = 39402006196394479212279040100143613805079739270465446667948293404245721771497210611414266254884915640806627990306816 from rfl)
  clear hA0 hval0
  simp only [List.append_nil] at hW'
  obtain ⟨v, hv, hrun⟩ := fpRoots_gives x0 b0
  simp only [AV.val?, Option.some.injEq] at hv
  subst hv
  refine (hrun W [_] ⟨rfl, trivial⟩).mono fun e W' ⟨he, hb⟩ => ?_
  subst he
  exact ⟨_, rfl, _, _, _, [], [], [], hW', trodAll_mk1 (shut_bool Try.underlying4 true), trodAll_mk1 (s0 _ _ _ _), rfl, hb.frame _, fun h => by cases h⟩

theorem fpRoots_holds : Rows.FpRootsSaid :=
  OpenClaim.holds_of_wide 12 Try.f12 rfl rfl rfl rfl rfl rfl rfl ⟨rfl, rfl, rfl, rfl, rfl⟩ rfl rfl rfl rfl rfl (by kernel_rfl) Try.func12 (by kernel_rfl)
    (of_decide_eq_true (by kernel_rfl)) (by unfold Func.isWrapper; first | (rw [if_pos (by decide +kernel)]; kernel_rfl) | (rw [if_neg (by decide +kernel)]; exact ⟨rfl, rfl⟩))
    (fun os started H enc _ => fpRoots_lifted os started H enc)
end Go.Proofs.Ytncnnngfemhaeaa
