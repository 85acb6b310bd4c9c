/- Whatever three numbers are given, chirographlaw04.FpField says true: the laws of a field. -/
import Derived.Test.YtncnnngfemhaeaaPwP
import Derived.Test.YtncnnngfemhaeaaPri
import Derived.Test.YtncnnngfemhaeaaRiP
import Derived.Test.YtncnnngfemhaeaaOpn
import Derived.Test.YtncnnngfemhaeaaRows
set_option linter.unusedSimpArgs false
set_option linter.unusedVariables false
namespace Go.Proofs.Ytncnnngfemhaeaa
open Go.Ev Go.ChangeShapes Go.WideShapes Go.ChangeAt Go.RowKit

theorem ofP_0 : ofP 0 = 0 := by decide
theorem ofP_1 : ofP (1 : Int).toNat = 1 := by decide
theorem fpField_z (a b c : Nat) (ha : a < 39402006196394479212279040100143613805079739270465446667948293404245721771497210611414266254884915640806627990306816) (hb : b < 39402006196394479212279040100143613805079739270465446667948293404245721771497210611414266254884915640806627990306816) (hc : c < 39402006196394479212279040100143613805079739270465446667948293404245721771497210611414266254884915640806627990306816) (h : (ofP a) = 0) : Gives Try.prog 5 [.t (.ag [.n 6 a]), .t (.ag [.n 6 b]), .t (.ag [.n 6 c])] (.v (.bool true)) :=
  fn_gives (P := Try.prog) (env := [eAlP, eFCleanP, eFSmallP, eFAddP, eFMulP, eFSubP, eFNegP, eFInvP, eFRightP]) ⟨eAlP_ok, eFCleanP_ok, eFSmallP_ok, eFAddP_ok, eFMulP_ok, eFSubP_ok, eFNegP_ok, eFInvP_ok, eFRightP_ok, trivial⟩ Try.func5 0 (oL [(13, hdO 74), (87, hdO 33), (120, hdO 36)]) (by kernel_rfl)
      (And.intro (show ((ofP a) * (ofP b)).val < 39402006196394479212279040100143613805079739270465446667948293404245721771497210611414266254884915640806627990306816 ∧ ((ofP a) * (ofP b)).val < 4002409555221667393417789825735904156556882819939007885332058136124031650490837864442687629129015664037894272559787 from ⟨Nat.lt_trans ((ofP a) * (ofP b)).isLt (by decide), ((ofP a) * (ofP b)).isLt⟩) 
      (And.intro (show smtP (.inr a) ∧ smtP (.inr b) from ⟨ha, hb⟩) 
      (And.intro (show ((ofP a) + (ofP b)).val < 39402006196394479212279040100143613805079739270465446667948293404245721771497210611414266254884915640806627990306816 ∧ ((ofP a) + (ofP b)).val < 4002409555221667393417789825735904156556882819939007885332058136124031650490837864442687629129015664037894272559787 from ⟨Nat.lt_trans ((ofP a) + (ofP b)).isLt (by decide), ((ofP a) + (ofP b)).isLt⟩) 
      (And.intro (show smtP (.inr a) ∧ smtP (.inr b) from ⟨ha, hb⟩) 
      (And.intro (show flat [.q (pwP (ofP a) 4002409555221667393417789825735904156556882819939007885332058136124031650490837864442687629129015664037894272559785)] = flat [.q (ofP a)] from by rw [h, inv_zeroP]) 
      (And.intro (show smtP (.inr a) from ha) 
      (And.intro (show flat [.q (ofP a)] = flat [.c (.int .u64 0), .c (.int .u64 0), .c (.int .u64 0), .c (.int .u64 0), .c (.int .u64 0), .c (.int .u64 0)] from by rw [h]; kernel_rfl) 
      (And.intro (show flat [.q (((ofP a) + (ofP b)) - (ofP b))] = flat [.q (ofP a)] from by rw [show (((ofP a) + (ofP b)) - (ofP b)) = (ofP a) from by grind]) 
      (And.intro (show smtP (.inl ((ofP a) + (ofP b))) ∧ smtP (.inr b) from ⟨trivial, hb⟩) 
      (And.intro (show smtP (.inr a) ∧ smtP (.inr b) from ⟨ha, hb⟩) 
      (And.intro (show flat [.q ((ofP a) + (-(ofP a)))] = flat [.c (.int .u64 0), .c (.int .u64 0), .c (.int .u64 0), .c (.int .u64 0), .c (.int .u64 0), .c (.int .u64 0)] from by rw [show ((ofP a) + (-(ofP a))) = 0 from by grind]; kernel_rfl) 
      (And.intro (show smtP (.inr a) ∧ smtP (.inl (-(ofP a))) from ⟨ha, trivial⟩) 
      (And.intro (show smtP (.inr a) from ha) 
      (And.intro (show flat [.q ((ofP a) * (ofP (1 : Int).toNat))] = flat [.q (ofP a)] from by rw [ofP_1, show (ofP a) * 1 = (ofP a) from by grind]) 
      (And.intro (show smtP (.inr a) ∧ smtP (.inl (ofP (1 : Int).toNat)) from ⟨ha, trivial⟩) 
      (And.intro (show flat [.q ((ofP a) + (ofP 0))] = flat [.q (ofP a)] from by rw [ofP_0, show (ofP a) + 0 = (ofP a) from by grind]) 
      (And.intro (show smtP (.inr a) ∧ smtP (.inr 0) from ⟨ha, (by unfold smtP smP; decide)⟩) 
      (And.intro (show flat [.q ((ofP a) * ((ofP b) + (ofP c)))] = flat [.q (((ofP a) * (ofP b)) + ((ofP a) * (ofP c)))] from by rw [show ((ofP a) * ((ofP b) + (ofP c))) = (((ofP a) * (ofP b)) + ((ofP a) * (ofP c))) from by grind]) 
      (And.intro (show smtP (.inl ((ofP a) * (ofP b))) ∧ smtP (.inl ((ofP a) * (ofP c))) from ⟨trivial, trivial⟩) 
      (And.intro (show smtP (.inr a) ∧ smtP (.inr c) from ⟨ha, hc⟩) 
      (And.intro (show smtP (.inr a) ∧ smtP (.inr b) from ⟨ha, hb⟩) 
      (And.intro (show smtP (.inr a) ∧ smtP (.inl ((ofP b) + (ofP c))) from ⟨ha, trivial⟩) 
      (And.intro (show smtP (.inr b) ∧ smtP (.inr c) from ⟨hb, hc⟩) 
      (And.intro (show flat [.q (((ofP a) * (ofP b)) * (ofP c))] = flat [.q ((ofP a) * ((ofP b) * (ofP c)))] from by rw [show (((ofP a) * (ofP b)) * (ofP c)) = ((ofP a) * ((ofP b) * (ofP c))) from by grind]) 
      (And.intro (show smtP (.inr a) ∧ smtP (.inl ((ofP b) * (ofP c))) from ⟨ha, trivial⟩) 
      (And.intro (show smtP (.inr b) ∧ smtP (.inr c) from ⟨hb, hc⟩) 
      (And.intro (show smtP (.inl ((ofP a) * (ofP b))) ∧ smtP (.inr c) from ⟨trivial, hc⟩) 
      (And.intro (show smtP (.inr a) ∧ smtP (.inr b) from ⟨ha, hb⟩) 
      (And.intro (show flat [.q (((ofP a) + (ofP b)) + (ofP c))] = flat [.q ((ofP a) + ((ofP b) + (ofP c)))] from by rw [show (((ofP a) + (ofP b)) + (ofP c)) = ((ofP a) + ((ofP b) + (ofP c))) from by grind]) 
      (And.intro (show smtP (.inr a) ∧ smtP (.inl ((ofP b) + (ofP c))) from ⟨ha, trivial⟩) 
      (And.intro (show smtP (.inr b) ∧ smtP (.inr c) from ⟨hb, hc⟩) 
      (And.intro (show smtP (.inl ((ofP a) + (ofP b))) ∧ smtP (.inr c) from ⟨trivial, hc⟩) 
      (And.intro (show smtP (.inr a) ∧ smtP (.inr b) from ⟨ha, hb⟩) 
      (And.intro (show flat [.q ((ofP a) * (ofP b))] = flat [.q ((ofP b) * (ofP a))] from by rw [show ((ofP a) * (ofP b)) = ((ofP b) * (ofP a)) from by grind]) 
      (And.intro (show smtP (.inr b) ∧ smtP (.inr a) from ⟨hb, ha⟩) 
      (And.intro (show smtP (.inr a) ∧ smtP (.inr b) from ⟨ha, hb⟩) 
      (And.intro (show flat [.q ((ofP a) + (ofP b))] = flat [.q ((ofP b) + (ofP a))] from by rw [show ((ofP a) + (ofP b)) = ((ofP b) + (ofP a)) from by grind]) 
      (And.intro (show smtP (.inr b) ∧ smtP (.inr a) from ⟨hb, ha⟩) 
      (And.intro (show smtP (.inr a) ∧ smtP (.inr b) from ⟨ha, hb⟩) 
      (And.intro (show (0 : Int) ≤ 1 ∧ (1 : Int) < 9223372036854775808 from by decide) 
      (And.intro (show smtP (.inr a) from ha) trivial)))))))))))))))))))))))))))))))))))))))))

theorem fpField_n (a b c : Nat) (ha : a < 39402006196394479212279040100143613805079739270465446667948293404245721771497210611414266254884915640806627990306816) (hb : b < 39402006196394479212279040100143613805079739270465446667948293404245721771497210611414266254884915640806627990306816) (hc : c < 39402006196394479212279040100143613805079739270465446667948293404245721771497210611414266254884915640806627990306816) (h : (ofP a) ≠ 0) : Gives Try.prog 5 [.t (.ag [.n 6 a]), .t (.ag [.n 6 b]), .t (.ag [.n 6 c])] (.v (.bool true)) :=
  fn_gives (P := Try.prog) (env := [eAlP, eFCleanP, eFSmallP, eFAddP, eFMulP, eFSubP, eFNegP, eFInvP, eFRightP]) ⟨eAlP_ok, eFCleanP_ok, eFSmallP_ok, eFAddP_ok, eFMulP_ok, eFSubP_ok, eFNegP_ok, eFInvP_ok, eFRightP_ok, trivial⟩ Try.func5 0 (oL [(124, wO 1), (13, hdO 74), (87, hdO 33), (120, hdO 36)]) (by kernel_rfl)
      (And.intro (show ((ofP a) * (ofP b)).val < 39402006196394479212279040100143613805079739270465446667948293404245721771497210611414266254884915640806627990306816 ∧ ((ofP a) * (ofP b)).val < 4002409555221667393417789825735904156556882819939007885332058136124031650490837864442687629129015664037894272559787 from ⟨Nat.lt_trans ((ofP a) * (ofP b)).isLt (by decide), ((ofP a) * (ofP b)).isLt⟩) 
      (And.intro (show smtP (.inr a) ∧ smtP (.inr b) from ⟨ha, hb⟩) 
      (And.intro (show ((ofP a) + (ofP b)).val < 39402006196394479212279040100143613805079739270465446667948293404245721771497210611414266254884915640806627990306816 ∧ ((ofP a) + (ofP b)).val < 4002409555221667393417789825735904156556882819939007885332058136124031650490837864442687629129015664037894272559787 from ⟨Nat.lt_trans ((ofP a) + (ofP b)).isLt (by decide), ((ofP a) + (ofP b)).isLt⟩) 
      (And.intro (show smtP (.inr a) ∧ smtP (.inr b) from ⟨ha, hb⟩) 
      (And.intro (show flat [.q ((ofP a) * (pwP (ofP a) 4002409555221667393417789825735904156556882819939007885332058136124031650490837864442687629129015664037894272559785))] = flat [.q (ofP (1 : Int).toNat)] from by rw [mul_invP h, ofP_1]) 
      (And.intro (show smtP (.inr a) ∧ smtP (.inl (pwP (ofP a) 4002409555221667393417789825735904156556882819939007885332058136124031650490837864442687629129015664037894272559785)) from ⟨ha, trivial⟩) 
      (And.intro (show smtP (.inr a) from ha) 
      (And.intro (show ¬ flat [.q (ofP a)] = flat [.c (.int .u64 0), .c (.int .u64 0), .c (.int .u64 0), .c (.int .u64 0), .c (.int .u64 0), .c (.int .u64 0)] from ne_zerosP h) 
      (And.intro (show flat [.q (((ofP a) + (ofP b)) - (ofP b))] = flat [.q (ofP a)] from by rw [show (((ofP a) + (ofP b)) - (ofP b)) = (ofP a) from by grind]) 
      (And.intro (show smtP (.inl ((ofP a) + (ofP b))) ∧ smtP (.inr b) from ⟨trivial, hb⟩) 
      (And.intro (show smtP (.inr a) ∧ smtP (.inr b) from ⟨ha, hb⟩) 
      (And.intro (show flat [.q ((ofP a) + (-(ofP a)))] = flat [.c (.int .u64 0), .c (.int .u64 0), .c (.int .u64 0), .c (.int .u64 0), .c (.int .u64 0), .c (.int .u64 0)] from by rw [show ((ofP a) + (-(ofP a))) = 0 from by grind]; kernel_rfl) 
      (And.intro (show smtP (.inr a) ∧ smtP (.inl (-(ofP a))) from ⟨ha, trivial⟩) 
      (And.intro (show smtP (.inr a) from ha) 
      (And.intro (show flat [.q ((ofP a) * (ofP (1 : Int).toNat))] = flat [.q (ofP a)] from by rw [ofP_1, show (ofP a) * 1 = (ofP a) from by grind]) 
      (And.intro (show smtP (.inr a) ∧ smtP (.inl (ofP (1 : Int).toNat)) from ⟨ha, trivial⟩) 
      (And.intro (show flat [.q ((ofP a) + (ofP 0))] = flat [.q (ofP a)] from by rw [ofP_0, show (ofP a) + 0 = (ofP a) from by grind]) 
      (And.intro (show smtP (.inr a) ∧ smtP (.inr 0) from ⟨ha, (by unfold smtP smP; decide)⟩) 
      (And.intro (show flat [.q ((ofP a) * ((ofP b) + (ofP c)))] = flat [.q (((ofP a) * (ofP b)) + ((ofP a) * (ofP c)))] from by rw [show ((ofP a) * ((ofP b) + (ofP c))) = (((ofP a) * (ofP b)) + ((ofP a) * (ofP c))) from by grind]) 
      (And.intro (show smtP (.inl ((ofP a) * (ofP b))) ∧ smtP (.inl ((ofP a) * (ofP c))) from ⟨trivial, trivial⟩) 
      (And.intro (show smtP (.inr a) ∧ smtP (.inr c) from ⟨ha, hc⟩) 
      (And.intro (show smtP (.inr a) ∧ smtP (.inr b) from ⟨ha, hb⟩) 
      (And.intro (show smtP (.inr a) ∧ smtP (.inl ((ofP b) + (ofP c))) from ⟨ha, trivial⟩) 
      (And.intro (show smtP (.inr b) ∧ smtP (.inr c) from ⟨hb, hc⟩) 
      (And.intro (show flat [.q (((ofP a) * (ofP b)) * (ofP c))] = flat [.q ((ofP a) * ((ofP b) * (ofP c)))] from by rw [show (((ofP a) * (ofP b)) * (ofP c)) = ((ofP a) * ((ofP b) * (ofP c))) from by grind]) 
      (And.intro (show smtP (.inr a) ∧ smtP (.inl ((ofP b) * (ofP c))) from ⟨ha, trivial⟩) 
      (And.intro (show smtP (.inr b) ∧ smtP (.inr c) from ⟨hb, hc⟩) 
      (And.intro (show smtP (.inl ((ofP a) * (ofP b))) ∧ smtP (.inr c) from ⟨trivial, hc⟩) 
      (And.intro (show smtP (.inr a) ∧ smtP (.inr b) from ⟨ha, hb⟩) 
      (And.intro (show flat [.q (((ofP a) + (ofP b)) + (ofP c))] = flat [.q ((ofP a) + ((ofP b) + (ofP c)))] from by rw [show (((ofP a) + (ofP b)) + (ofP c)) = ((ofP a) + ((ofP b) + (ofP c))) from by grind]) 
      (And.intro (show smtP (.inr a) ∧ smtP (.inl ((ofP b) + (ofP c))) from ⟨ha, trivial⟩) 
      (And.intro (show smtP (.inr b) ∧ smtP (.inr c) from ⟨hb, hc⟩) 
      (And.intro (show smtP (.inl ((ofP a) + (ofP b))) ∧ smtP (.inr c) from ⟨trivial, hc⟩) 
      (And.intro (show smtP (.inr a) ∧ smtP (.inr b) from ⟨ha, hb⟩) 
      (And.intro (show flat [.q ((ofP a) * (ofP b))] = flat [.q ((ofP b) * (ofP a))] from by rw [show ((ofP a) * (ofP b)) = ((ofP b) * (ofP a)) from by grind]) 
      (And.intro (show smtP (.inr b) ∧ smtP (.inr a) from ⟨hb, ha⟩) 
      (And.intro (show smtP (.inr a) ∧ smtP (.inr b) from ⟨ha, hb⟩) 
      (And.intro (show flat [.q ((ofP a) + (ofP b))] = flat [.q ((ofP b) + (ofP a))] from by rw [show ((ofP a) + (ofP b)) = ((ofP b) + (ofP a)) from by grind]) 
      (And.intro (show smtP (.inr b) ∧ smtP (.inr a) from ⟨hb, ha⟩) 
      (And.intro (show smtP (.inr a) ∧ smtP (.inr b) from ⟨ha, hb⟩) 
      (And.intro (show (0 : Int) ≤ 1 ∧ (1 : Int) < 9223372036854775808 from by decide) 
      (And.intro (show smtP (.inr a) from ha) trivial))))))))))))))))))))))))))))))))))))))))))

theorem fpField_gives (a b c : Nat) (ha : a < 39402006196394479212279040100143613805079739270465446667948293404245721771497210611414266254884915640806627990306816) (hb : b < 39402006196394479212279040100143613805079739270465446667948293404245721771497210611414266254884915640806627990306816) (hc : c < 39402006196394479212279040100143613805079739270465446667948293404245721771497210611414266254884915640806627990306816) : Gives Try.prog 5 [.t (.ag [.n 6 a]), .t (.ag [.n 6 b]), .t (.ag [.n 6 c])] (.v (.bool true)) := by
  by_cases h : ofP a = 0
  · exact fpField_z a b c ha hb hc h
  · exact fpField_n a b c ha hb hc h

theorem Try.own : ownKnob Try.prog.godebug = none := by kernel_rfl

set_option maxRecDepth 100000 in
theorem fpField_lifted (os : Os) (started : os.Started) (H : Type) (enc : TypeId × Value → H) :
    ReturnsInHanded {} Try.checked os 5 .any (Rows.fpFieldSpec.pre6 enc Try.prog Try.f5 Rows.fpFieldRow.domain false) (Rows.fpFieldSpec.post enc Try.prog Try.f5 false true false false) := by
  refine returnsInHanded_of_change (C := Try.checked) Try.own started (by kernel_rfl) Try.func5
    (ChangeSpec.witness6 (enc := enc) (C := Try.checked) false ⟨#[], #[.agg (Array.replicate 6 (.int .u64 0)), .agg (Array.replicate 6 (.int .u64 0)), .agg (Array.replicate 6 (.int .u64 0))], []⟩ 8 (by kernel_rfl) (by kernel_rfl) (by kernel_rfl) (by kernel_rfl)) ?_
  intro W base args ds gs before hval0 hW _ _
  have hval : ∀ (j : Nat) t v, Try.f5.params[j]? = some t → args[j]? = some v → Value.okWide Try.prog W .any base t v := hval0
  have hW' := hW
  obtain ⟨p, q, hA0, hV, rfl, _, _⟩ := hW
  have hA : DataW.TrodAll enc Try.prog W 0 (fun _ => true) true Try.f5.params.toList args.toList ds p := hA0
  rw [Try.params5] at hA hval
  obtain ⟨v0, v1, v2, d0, d1, d2, p0, p1, p2, rfl, rfl, rfl, h0, h1, h2⟩ := trodAll_three hA
  obtain ⟨rfl, rfl⟩ := trodVars_none hV
  obtain ⟨c0, rfl, u0, l0, rfl, s0⟩ := open_flat 8 (by kernel_rfl) (by kernel_rfl) (hval 0 _ v0 rfl rfl) h0
  obtain ⟨x0, b0, rfl⟩ := u_limbs 6 c0 u0 (l0.trans (by kernel_rfl))
  replace b0 := Nat.lt_of_lt_of_eq b0 (show _ = 39402006196394479212279040100143613805079739270465446667948293404245721771497210611414266254884915640806627990306816 from rfl)
  obtain ⟨c1, rfl, u1, l1, rfl, s1⟩ := open_flat 8 (by kernel_rfl) (by kernel_rfl) (hval 1 _ v1 rfl rfl) h1
  obtain ⟨x1, b1, rfl⟩ := u_limbs 6 c1 u1 (l1.trans (by kernel_rfl))
  replace b1 := Nat.lt_of_lt_of_eq b1 (show _ = 39402006196394479212279040100143613805079739270465446667948293404245721771497210611414266254884915640806627990306816 from rfl)
  obtain ⟨c2, rfl, u2, l2, rfl, s2⟩ := open_flat 8 (by kernel_rfl) (by kernel_rfl) (hval 2 _ v2 rfl rfl) h2
  obtain ⟨x2, b2, rfl⟩ := u_limbs 6 c2 u2 (l2.trans (by kernel_rfl))
  replace b2 := Nat.lt_of_lt_of_eq b2 (show _ = 39402006196394479212279040100143613805079739270465446667948293404245721771497210611414266254884915640806627990306816 from rfl)
  clear hA0 hval0
  simp only [List.append_nil] at hW'
  obtain ⟨v, hv, hrun⟩ := fpField_gives x0 x1 x2 b0 b1 b2
  simp only [AV.val?, Option.some.injEq] at hv
  subst hv
  refine (hrun W [_, _, _] ⟨rfl, rfl, rfl, trivial⟩).mono fun e W' ⟨he, hb⟩ => ?_
  subst he
  exact ⟨_, rfl, _, _, _, [], [], [], hW', trodAll_mk1 (shut_bool Try.underlying4 true), trodAll_mk3 (s0 _ _ _ _) (s1 _ _ _ _) (s2 _ _ _ _), rfl, hb.frame _, fun h => by cases h⟩

theorem fpField_holds : Rows.FpFieldSaid :=
  OpenClaim.holds_of_wide 5 Try.f5 rfl rfl rfl rfl rfl rfl rfl ⟨rfl, rfl, rfl, rfl, rfl⟩ rfl rfl rfl rfl rfl (by kernel_rfl) Try.func5 (by kernel_rfl)
    (of_decide_eq_true (by kernel_rfl)) (by unfold Func.isWrapper; first | (rw [if_pos (by decide +kernel)]; kernel_rfl) | (rw [if_neg (by decide +kernel)]; exact ⟨rfl, rfl⟩))
    (fun os started H enc _ => fpField_lifted os started H enc)
end Go.Proofs.Ytncnnngfemhaeaa
