/- Pruned: ZhRiP. -/
import Derived.Test.YtmbllhibdbeplaaQZhRcP
set_option linter.unusedSimpArgs false
set_option linter.unusedVariables false
namespace Go.Proofs.Ytmbllhibdbeplaa
open Go.Ev Go.RowKit

theorem rightP_lo (a : Nat) (ha : a < 39402006196394479212279040100143613805079739270465446667948293404245721771497210611414266254884915640806627990306816) (h : a < 4002409555221667393417789825735904156556882819939007885332058136124031650490837864442687629129015664037894272559787) : Gives Try.prog 102 [.t (.ag [.n 6 a])] (.v (.bool true)) :=
  fn_gives (P := Try.prog) (env := [eFCleanP]) ⟨eFCleanP_ok, trivial⟩ Try.func102 0 (oN [] [(5, 0)]) (by kernel_rfl)
      (And.intro (show flat [.q (ofP a)] = flat [.n 6 a] from by simp only [flat, Ch.cells]; rw [show (ofP a).val = a from Nat.mod_eq_of_lt h]) 
      (And.intro (show smtP (.inr a) from ha) trivial))
theorem rightP_no (a : Nat) (ha : a < 39402006196394479212279040100143613805079739270465446667948293404245721771497210611414266254884915640806627990306816) (h : 4002409555221667393417789825735904156556882819939007885332058136124031650490837864442687629129015664037894272559787 ≤ a) : Gives Try.prog 102 [.t (.ag [.n 6 a])] (.v (.bool false)) :=
  fn_gives (P := Try.prog) (env := [eFCleanP]) ⟨eFCleanP_ok, trivial⟩ Try.func102 0 (oN [] [(5, 1)]) (by kernel_rfl)
      (And.intro (show ¬ flat [.q (ofP a)] = flat [.n 6 a] from fun e => by
        have h1 := limbs_inj 6 (ofP a).val a (Nat.lt_trans (ofP a).isLt (by decide)) (by simpa using ha) (by simpa [flat, Ch.cells] using e)
        have h2 := (ofP a).isLt
        rw [h1] at h2
        exact absurd h2 (Nat.not_lt.2 h)) 
      (And.intro (show smtP (.inr a) from ha) trivial))
def eFRightP : Entry := entry1 102 parN6.x (fun a => [(some (a < 39402006196394479212279040100143613805079739270465446667948293404245721771497210611414266254884915640806627990306816 ∧ a < 4002409555221667393417789825735904156556882819939007885332058136124031650490837864442687629129015664037894272559787), .v (.bool true)), (some (a < 39402006196394479212279040100143613805079739270465446667948293404245721771497210611414266254884915640806627990306816 ∧ 4002409555221667393417789825735904156556882819939007885332058136124031650490837864442687629129015664037894272559787 ≤ a), .v (.bool false))])
theorem eFRightP_ok : eFRightP.OK Try.prog := entry1_ok (fun args w => Go.Proofs.enters_of (P := Try.prog) Try.func102 (by kernel_rfl) rfl args w) (fun a c r hm hc => by
  simp only [List.mem_cons, Prod.mk.injEq, List.not_mem_nil, or_false] at hm
  rcases hm with ⟨rfl, rfl⟩ | ⟨rfl, rfl⟩
  · exact rightP_lo a hc.1 hc.2
  · exact rightP_no a hc.1 hc.2)
end Go.Proofs.Ytmbllhibdbeplaa
