/- Whatever numbers are given, chirographlaw04.FpRights says true: which are elements, what one is modulo p, what a small one is. -/
import Derived.Test.YtonklhcmpbhhaaaRcP
import Derived.Test.YtonklhcmpbhhaaaOpn
import Derived.Test.YtonklhcmpbhhaaaRows
set_option linter.unusedSimpArgs false
set_option linter.unusedVariables false
namespace Go.Proofs.Ytonklhcmpbhhaaa
open Go.Ev Go.ChangeShapes Go.WideShapes Go.ChangeAt Go.RowKit

theorem rightP_lo (a : Nat) (ha : a < 39402006196394479212279040100143613805079739270465446667948293404245721771497210611414266254884915640806627990306816) (h : a < 4002409555221667393417789825735904156556882819939007885332058136124031650490837864442687629129015664037894272559787) : Gives Try.prog 21 [.t (.ag [.n 6 a])] (.v (.bool true)) :=
  fn_gives (P := Try.prog) (env := [eFCleanP]) ⟨eFCleanP_ok, trivial⟩ Try.func21 0 (oN [] [(5, 0)]) (by kernel_rfl)
      (And.intro (show flat [.q (ofP a)] = flat [.n 6 a] from by simp only [flat, Ch.cells]; rw [show (ofP a).val = a from Nat.mod_eq_of_lt h]) 
      (And.intro (show smtP (.inr a) from ha) trivial))
theorem rightP_no (a : Nat) (ha : a < 39402006196394479212279040100143613805079739270465446667948293404245721771497210611414266254884915640806627990306816) (h : 4002409555221667393417789825735904156556882819939007885332058136124031650490837864442687629129015664037894272559787 ≤ a) : Gives Try.prog 21 [.t (.ag [.n 6 a])] (.v (.bool false)) :=
  fn_gives (P := Try.prog) (env := [eFCleanP]) ⟨eFCleanP_ok, trivial⟩ Try.func21 0 (oN [] [(5, 1)]) (by kernel_rfl)
      (And.intro (show ¬ flat [.q (ofP a)] = flat [.n 6 a] from fun e => by
        have h1 := limbs_inj 6 (ofP a).val a (Nat.lt_trans (ofP a).isLt (by decide)) (by simpa using ha) (by simpa [flat, Ch.cells] using e)
        have h2 := (ofP a).isLt
        rw [h1] at h2
        exact absurd h2 (Nat.not_lt.2 h)) 
      (And.intro (show smtP (.inr a) from ha) trivial))
def eFRightP : Entry := entry1 21 parN6.x (fun a => [(some (a < 39402006196394479212279040100143613805079739270465446667948293404245721771497210611414266254884915640806627990306816 ∧ a < 4002409555221667393417789825735904156556882819939007885332058136124031650490837864442687629129015664037894272559787), .v (.bool true)), (some (a < 39402006196394479212279040100143613805079739270465446667948293404245721771497210611414266254884915640806627990306816 ∧ 4002409555221667393417789825735904156556882819939007885332058136124031650490837864442687629129015664037894272559787 ≤ a), .v (.bool false))])
theorem eFRightP_ok : eFRightP.OK Try.prog := entry1_ok (fun args w => Go.Proofs.enters_of (P := Try.prog) Try.func21 (by kernel_rfl) rfl args w) (fun a c r hm hc => by
  simp only [List.mem_cons, Prod.mk.injEq, List.not_mem_nil, or_false] at hm
  rcases hm with ⟨rfl, rfl⟩ | ⟨rfl, rfl⟩
  · exact rightP_lo a hc.1 hc.2
  · exact rightP_no a hc.1 hc.2)
theorem fpRights_11 (a : Nat) (n : Int) (ha : a < 39402006196394479212279040100143613805079739270465446667948293404245721771497210611414266254884915640806627990306816) (h1 : n < 9223372036854775808) (h2 : -9223372036854775808 ≤ n) (h : a < 4002409555221667393417789825735904156556882819939007885332058136124031650490837864442687629129015664037894272559787) (hn : 0 ≤ n) : Gives Try.prog 4 [.t (.ag [.n 6 a]), .t (.v (.int .i64 n))] (.v (.bool true)) :=
  fn_gives (P := Try.prog) (env := [eAlP, eFRightP, eLessP, eRRP, eFCleanP, eCleanP, eFSmallP, eSmallPr]) ⟨eAlP_ok, eFRightP_ok, eLessP_ok, eRRP_ok, eFCleanP_ok, eCleanP_ok, eFSmallP_ok, eSmallPr_ok, trivial⟩ Try.func4 0 (oN [] [(5, 0), (8, 0), (20, 0), (22, 0)]) (by kernel_rfl)
      (And.intro (show flat [.q (ofP n.toNat)] = flat [.q (ofP n.toNat)] from rfl) 
      (And.intro (show 0 ≤ n ∧ n < 9223372036854775808 from ⟨hn, h1⟩) 
      (And.intro (show 0 ≤ n ∧ n < 9223372036854775808 from ⟨hn, h1⟩) 
      (And.intro (show flat [.q (ofP a)] = flat [.q (ofP a)] from rfl) 
      (And.intro (show a < 39402006196394479212279040100143613805079739270465446667948293404245721771497210611414266254884915640806627990306816 from ha) 
      (And.intro (show smtP (.inr a) from ha) 
      (And.intro (show a < 39402006196394479212279040100143613805079739270465446667948293404245721771497210611414266254884915640806627990306816 ∧ 4002409555221667393417789825735904156556882819939007885332058136124031650490837864442687629129015664037894272559787 < 39402006196394479212279040100143613805079739270465446667948293404245721771497210611414266254884915640806627990306816 ∧ a < 4002409555221667393417789825735904156556882819939007885332058136124031650490837864442687629129015664037894272559787 from ⟨ha, by decide, h⟩) 
      (And.intro (show a < 39402006196394479212279040100143613805079739270465446667948293404245721771497210611414266254884915640806627990306816 ∧ a < 4002409555221667393417789825735904156556882819939007885332058136124031650490837864442687629129015664037894272559787 from ⟨ha, h⟩) trivial))))))))
theorem fpRights_10 (a : Nat) (n : Int) (ha : a < 39402006196394479212279040100143613805079739270465446667948293404245721771497210611414266254884915640806627990306816) (h1 : n < 9223372036854775808) (h2 : -9223372036854775808 ≤ n) (h : a < 4002409555221667393417789825735904156556882819939007885332058136124031650490837864442687629129015664037894272559787) (hn : n < 0) : Gives Try.prog 4 [.t (.ag [.n 6 a]), .t (.v (.int .i64 n))] (.v (.bool true)) :=
  fn_gives (P := Try.prog) (env := [eAlP, eFRightP, eLessP, eRRP, eFCleanP, eCleanP, eFSmallP, eSmallPr]) ⟨eAlP_ok, eFRightP_ok, eLessP_ok, eRRP_ok, eFCleanP_ok, eCleanP_ok, eFSmallP_ok, eSmallPr_ok, trivial⟩ Try.func4 0 (oN [] [(5, 0), (8, 0), (20, 1), (22, 1)]) (by kernel_rfl)
      (And.intro (show flat [.q (-(ofP (-n).toNat))] = flat [.q (-(ofP (-n).toNat))] from rfl) 
      (And.intro (show n < 0 ∧ -9223372036854775808 ≤ n from ⟨hn, h2⟩) 
      (And.intro (show n < 0 ∧ -9223372036854775808 ≤ n from ⟨hn, h2⟩) 
      (And.intro (show flat [.q (ofP a)] = flat [.q (ofP a)] from rfl) 
      (And.intro (show a < 39402006196394479212279040100143613805079739270465446667948293404245721771497210611414266254884915640806627990306816 from ha) 
      (And.intro (show smtP (.inr a) from ha) 
      (And.intro (show a < 39402006196394479212279040100143613805079739270465446667948293404245721771497210611414266254884915640806627990306816 ∧ 4002409555221667393417789825735904156556882819939007885332058136124031650490837864442687629129015664037894272559787 < 39402006196394479212279040100143613805079739270465446667948293404245721771497210611414266254884915640806627990306816 ∧ a < 4002409555221667393417789825735904156556882819939007885332058136124031650490837864442687629129015664037894272559787 from ⟨ha, by decide, h⟩) 
      (And.intro (show a < 39402006196394479212279040100143613805079739270465446667948293404245721771497210611414266254884915640806627990306816 ∧ a < 4002409555221667393417789825735904156556882819939007885332058136124031650490837864442687629129015664037894272559787 from ⟨ha, h⟩) trivial))))))))
theorem fpRights_01 (a : Nat) (n : Int) (ha : a < 39402006196394479212279040100143613805079739270465446667948293404245721771497210611414266254884915640806627990306816) (h1 : n < 9223372036854775808) (h2 : -9223372036854775808 ≤ n) (h : 4002409555221667393417789825735904156556882819939007885332058136124031650490837864442687629129015664037894272559787 ≤ a) (hn : 0 ≤ n) : Gives Try.prog 4 [.t (.ag [.n 6 a]), .t (.v (.int .i64 n))] (.v (.bool true)) :=
  fn_gives (P := Try.prog) (env := [eAlP, eFRightP, eLessP, eRRP, eFCleanP, eCleanP, eFSmallP, eSmallPr]) ⟨eAlP_ok, eFRightP_ok, eLessP_ok, eRRP_ok, eFCleanP_ok, eCleanP_ok, eFSmallP_ok, eSmallPr_ok, trivial⟩ Try.func4 0 (oN [] [(5, 1), (8, 1), (20, 0), (22, 0)]) (by kernel_rfl)
      (And.intro (show flat [.q (ofP n.toNat)] = flat [.q (ofP n.toNat)] from rfl) 
      (And.intro (show 0 ≤ n ∧ n < 9223372036854775808 from ⟨hn, h1⟩) 
      (And.intro (show 0 ≤ n ∧ n < 9223372036854775808 from ⟨hn, h1⟩) 
      (And.intro (show flat [.q (ofP a)] = flat [.q (ofP a)] from rfl) 
      (And.intro (show a < 39402006196394479212279040100143613805079739270465446667948293404245721771497210611414266254884915640806627990306816 from ha) 
      (And.intro (show smtP (.inr a) from ha) 
      (And.intro (show a < 39402006196394479212279040100143613805079739270465446667948293404245721771497210611414266254884915640806627990306816 ∧ 4002409555221667393417789825735904156556882819939007885332058136124031650490837864442687629129015664037894272559787 < 39402006196394479212279040100143613805079739270465446667948293404245721771497210611414266254884915640806627990306816 ∧ 4002409555221667393417789825735904156556882819939007885332058136124031650490837864442687629129015664037894272559787 ≤ a from ⟨ha, by decide, h⟩) 
      (And.intro (show a < 39402006196394479212279040100143613805079739270465446667948293404245721771497210611414266254884915640806627990306816 ∧ 4002409555221667393417789825735904156556882819939007885332058136124031650490837864442687629129015664037894272559787 ≤ a from ⟨ha, h⟩) trivial))))))))
theorem fpRights_00 (a : Nat) (n : Int) (ha : a < 39402006196394479212279040100143613805079739270465446667948293404245721771497210611414266254884915640806627990306816) (h1 : n < 9223372036854775808) (h2 : -9223372036854775808 ≤ n) (h : 4002409555221667393417789825735904156556882819939007885332058136124031650490837864442687629129015664037894272559787 ≤ a) (hn : n < 0) : Gives Try.prog 4 [.t (.ag [.n 6 a]), .t (.v (.int .i64 n))] (.v (.bool true)) :=
  fn_gives (P := Try.prog) (env := [eAlP, eFRightP, eLessP, eRRP, eFCleanP, eCleanP, eFSmallP, eSmallPr]) ⟨eAlP_ok, eFRightP_ok, eLessP_ok, eRRP_ok, eFCleanP_ok, eCleanP_ok, eFSmallP_ok, eSmallPr_ok, trivial⟩ Try.func4 0 (oN [] [(5, 1), (8, 1), (20, 1), (22, 1)]) (by kernel_rfl)
      (And.intro (show flat [.q (-(ofP (-n).toNat))] = flat [.q (-(ofP (-n).toNat))] from rfl) 
      (And.intro (show n < 0 ∧ -9223372036854775808 ≤ n from ⟨hn, h2⟩) 
      (And.intro (show n < 0 ∧ -9223372036854775808 ≤ n from ⟨hn, h2⟩) 
      (And.intro (show flat [.q (ofP a)] = flat [.q (ofP a)] from rfl) 
      (And.intro (show a < 39402006196394479212279040100143613805079739270465446667948293404245721771497210611414266254884915640806627990306816 from ha) 
      (And.intro (show smtP (.inr a) from ha) 
      (And.intro (show a < 39402006196394479212279040100143613805079739270465446667948293404245721771497210611414266254884915640806627990306816 ∧ 4002409555221667393417789825735904156556882819939007885332058136124031650490837864442687629129015664037894272559787 < 39402006196394479212279040100143613805079739270465446667948293404245721771497210611414266254884915640806627990306816 ∧ 4002409555221667393417789825735904156556882819939007885332058136124031650490837864442687629129015664037894272559787 ≤ a from ⟨ha, by decide, h⟩) 
      (And.intro (show a < 39402006196394479212279040100143613805079739270465446667948293404245721771497210611414266254884915640806627990306816 ∧ 4002409555221667393417789825735904156556882819939007885332058136124031650490837864442687629129015664037894272559787 ≤ a from ⟨ha, h⟩) trivial))))))))
theorem fpRights_gives (a : Nat) (n : Int) (ha : a < 39402006196394479212279040100143613805079739270465446667948293404245721771497210611414266254884915640806627990306816) (hn : (Lit.int .i64 n).wf = true) : Gives Try.prog 4 [.t (.ag [.n 6 a]), .t (.v (.int .i64 n))] (.v (.bool true)) := by
  have hb := bounds_i64 hn
  by_cases h : a < 4002409555221667393417789825735904156556882819939007885332058136124031650490837864442687629129015664037894272559787 <;> by_cases h0 : 0 ≤ n
  · exact fpRights_11 a n ha (by omega) (by omega) h h0
  · exact fpRights_10 a n ha (by omega) (by omega) h (by omega)
  · exact fpRights_01 a n ha (by omega) (by omega) (Nat.le_of_not_lt h) h0
  · exact fpRights_00 a n ha (by omega) (by omega) (Nat.le_of_not_lt h) (by omega)

theorem Try.own : ownKnob Try.prog.godebug = none := by kernel_rfl

set_option maxRecDepth 100000 in
theorem fpRights_lifted (os : Os) (started : os.Started) (H : Type) (enc : TypeId × Value → H) :
    ReturnsInHanded {} Try.checked os 4 .any (Rows.fpRightsSpec.pre6 enc Try.prog Try.f4 Rows.fpRightsRow.domain false) (Rows.fpRightsSpec.post enc Try.prog Try.f4 false true false false) := by
  refine returnsInHanded_of_change (C := Try.checked) Try.own started (by kernel_rfl) Try.func4
    (ChangeSpec.witness6 (enc := enc) (C := Try.checked) false ⟨#[], #[.agg (Array.replicate 6 (.int .u64 0)), .int .i64 0], []⟩ 8 (by kernel_rfl) (by kernel_rfl) (by kernel_rfl) (by kernel_rfl)) ?_
  intro W base args ds gs before hval0 hW _ _
  have hval : ∀ (j : Nat) t v, Try.f4.params[j]? = some t → args[j]? = some v → Value.okWide Try.prog W .any base t v := hval0
  have hW' := hW
  obtain ⟨p, q, hA0, hV, rfl, _, _⟩ := hW
  have hA : DataW.TrodAll enc Try.prog W 0 (fun _ => true) true Try.f4.params.toList args.toList ds p := hA0
  rw [Try.params4] at hA hval
  obtain ⟨v0, v1, d0, d1, p0, p1, rfl, rfl, rfl, h0, h1⟩ := trodAll_two hA
  obtain ⟨rfl, rfl⟩ := trodVars_none hV
  obtain ⟨c0, rfl, u0, l0, rfl, s0⟩ := open_flat 8 (by kernel_rfl) (by kernel_rfl) (hval 0 _ v0 rfl rfl) h0
  obtain ⟨x0, b0, rfl⟩ := u_limbs 6 c0 u0 (l0.trans (by kernel_rfl))
  replace b0 := Nat.lt_of_lt_of_eq b0 (show _ = 39402006196394479212279040100143613805079739270465446667948293404245721771497210611414266254884915640806627990306816 from rfl)
  obtain ⟨x1, rfl, rfl, rfl, b1⟩ := open_int (k := .i64) Try.underlying2 (hval 1 _ v1 rfl rfl) h1
  clear hA0 hval0
  simp only [List.append_nil] at hW'
  obtain ⟨v, hv, hrun⟩ := fpRights_gives x0 x1 b0 b1
  simp only [AV.val?, Option.some.injEq] at hv
  subst hv
  refine (hrun W [_, _] ⟨rfl, rfl, trivial⟩).mono fun e W' ⟨he, hb⟩ => ?_
  subst he
  exact ⟨_, rfl, _, _, _, [], [], [], hW', trodAll_mk1 (shut_bool Try.underlying4 true), trodAll_mk2 (s0 _ _ _ _) (shut_int Try.underlying2 b1), rfl, hb.frame _, fun h => by cases h⟩

theorem fpRights_holds : Rows.FpRightsSaid :=
  OpenClaim.holds_of_wide 4 Try.f4 rfl rfl rfl rfl rfl rfl rfl ⟨rfl, rfl, rfl, rfl, rfl⟩ rfl rfl rfl rfl rfl (by kernel_rfl) Try.func4 (by kernel_rfl)
    (of_decide_eq_true (by kernel_rfl)) (by unfold Func.isWrapper; first | (rw [if_pos (by decide +kernel)]; kernel_rfl) | (rw [if_neg (by decide +kernel)]; exact ⟨rfl, rfl⟩))
    (fun os started H enc _ => fpRights_lifted os started H enc)
end Go.Proofs.Ytonklhcmpbhhaaa
