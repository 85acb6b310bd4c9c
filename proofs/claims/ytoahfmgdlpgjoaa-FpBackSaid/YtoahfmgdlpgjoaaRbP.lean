/- Contracts of the reference of the field of order p on elements, and of the layer fp: remainders, sums, differences, negatives, products. -/
import Derived.Test.YtoahfmgdlpgjoaaRaP
import Derived.Test.YtoahfmgdlpgjoaaInP
set_option linter.unusedSimpArgs false
set_option linter.unusedVariables false
namespace Go.Proofs.Ytoahfmgdlpgjoaa
open Go.Ev Go.RowKit

def clPI (y : Nat) : LState := { n := 11, sl := [(1, .p 0 0), (2, .p 1 0)], hp := [(0, .own [.n 6 y] 24), (1, .own [.c (.int .u64 0), .c (.int .u64 0), .c (.int .u64 0), .c (.int .u64 0), .c (.int .u64 0), .c (.int .u64 0)] 24)] }
def clPZ (x : Fin Pp) : LState := { n := 11, sl := [(1, .p 0 0), (2, .p 1 0)], hp := [(0, .own [.q x] 24), (1, .own [.c (.int .u64 0), .c (.int .u64 0), .c (.int .u64 0), .c (.int .u64 0), .c (.int .u64 0), .c (.int .u64 0)] 24)] }
theorem clP_loop (a : Nat) (y : { y : Nat // y < 39402006196394479212279040100143613805079739270465446667948293404245721771497210611414266254884915640806627990306816 ∧ y % 4002409555221667393417789825735904156556882819939007885332058136124031650490837864442687629129015664037894272559787 = a % 4002409555221667393417789825735904156556882819939007885332058136124031650490837864442687629129015664037894272559787 }) : Sound Try.prog 0 false (.loop (loopB Try.f14 0)) (clPI y.val).aa (.exit 0) (clPZ (ofP a)).aa := by
  refine loop_ok (m := fun y : { y : Nat // y < 39402006196394479212279040100143613805079739270465446667948293404245721771497210611414266254884915640806627990306816 ∧ y % 4002409555221667393417789825735904156556882819939007885332058136124031650490837864442687629129015664037894272559787 = a % 4002409555221667393417789825735904156556882819939007885332058136124031650490837864442687629129015664037894272559787 } => y.val) (fun y => clPI y.val) (by simp) (fun y => ?_) y
  obtain ⟨y, hy, hm⟩ := y
  by_cases h : y < 4002409555221667393417789825735904156556882819939007885332058136124031650490837864442687629129015664037894272559787
  · refine .inr ?_
    have hs := roundR_sound (P := Try.prog) (X := rules0) (env := [eLessP, eRRP, eminusP]) ⟨eLessP_ok, eRRP_ok, eminusP_ok, trivial⟩ (n := 0) (os := oN [] [(12, 0)]) (fb := 0) (rd := false) (c := loopB Try.f14 0) (k := 10) (I := clPI y) (sk := [1, 2]) (hk := [0, 1]) (ex := .exit 0) (L := clPI y) (by kernel_rfl)
      (And.intro (show y < 39402006196394479212279040100143613805079739270465446667948293404245721771497210611414266254884915640806627990306816 ∧ 4002409555221667393417789825735904156556882819939007885332058136124031650490837864442687629129015664037894272559787 < 39402006196394479212279040100143613805079739270465446667948293404245721771497210611414266254884915640806627990306816 ∧ y < 4002409555221667393417789825735904156556882819939007885332058136124031650490837864442687629129015664037894272559787 from ⟨hy, by decide, h⟩) trivial)
    refine hs.post [] (by kernel_rfl) ⟨And.intro (And.intro rfl rfl) (And.intro (And.intro rfl rfl) trivial), And.intro (And.intro rfl (show flat [.n 6 y] = flat [.q (ofP a)] from ?_)) (And.intro (And.intro rfl rfl) trivial)⟩
    have : (ofP a).val = y := by show a % 4002409555221667393417789825735904156556882819939007885332058136124031650490837864442687629129015664037894272559787 = y; rw [← hm, Nat.mod_eq_of_lt h]
    simp only [flat, Ch.cells, this]
  · refine .inl ⟨⟨y - 4002409555221667393417789825735904156556882819939007885332058136124031650490837864442687629129015664037894272559787, by omega, by omega⟩, by simp only []; omega, ?_⟩
    have hs := roundR_sound (P := Try.prog) (X := rules0) (env := [eLessP, eRRP, eminusP]) ⟨eLessP_ok, eRRP_ok, eminusP_ok, trivial⟩ (n := 0) (os := oN [] [(12, 1)]) (fb := 0) (rd := false) (c := loopB Try.f14 0) (k := 10) (I := clPI y) (sk := [1, 2]) (hk := [0, 1]) (ex := .normal) (L := clPI ((y + 39402006196394479212279040100143613805079739270465446667948293404245721771497210611414266254884915640806627990306816 - 4002409555221667393417789825735904156556882819939007885332058136124031650490837864442687629129015664037894272559787) % 39402006196394479212279040100143613805079739270465446667948293404245721771497210611414266254884915640806627990306816)) (by kernel_rfl)
      (And.intro (show y < 39402006196394479212279040100143613805079739270465446667948293404245721771497210611414266254884915640806627990306816 ∧ 4002409555221667393417789825735904156556882819939007885332058136124031650490837864442687629129015664037894272559787 < 39402006196394479212279040100143613805079739270465446667948293404245721771497210611414266254884915640806627990306816 from ⟨hy, by decide⟩) (And.intro (show y < 39402006196394479212279040100143613805079739270465446667948293404245721771497210611414266254884915640806627990306816 ∧ 4002409555221667393417789825735904156556882819939007885332058136124031650490837864442687629129015664037894272559787 < 39402006196394479212279040100143613805079739270465446667948293404245721771497210611414266254884915640806627990306816 ∧ 4002409555221667393417789825735904156556882819939007885332058136124031650490837864442687629129015664037894272559787 ≤ y from ⟨hy, by decide, Nat.le_of_not_lt h⟩) trivial))
    rw [show (y + 39402006196394479212279040100143613805079739270465446667948293404245721771497210611414266254884915640806627990306816 - 4002409555221667393417789825735904156556882819939007885332058136124031650490837864442687629129015664037894272559787) % 39402006196394479212279040100143613805079739270465446667948293404245721771497210611414266254884915640806627990306816 = y - 4002409555221667393417789825735904156556882819939007885332058136124031650490837864442687629129015664037894272559787 by omega] at hs
    exact hs
theorem cleanP (a : Nat) (ha : a < 39402006196394479212279040100143613805079739270465446667948293404245721771497210611414266254884915640806627990306816) : Gives Try.prog 14 [.t (.ag [.n 6 a])] (.ag [.q (ofP a)]) :=
  fn_gives (P := Try.prog) (env := []) trivial Try.func14 0 (oL [(2, lpO { I := clPI a, ex := .exit 0, E := clPZ (ofP a), fr := 3 })]) (by kernel_rfl)
    (And.intro (show some (clPI a) = some (clPI a) from rfl) (And.intro (show Sound Try.prog 0 false (.loop (loopB Try.f14 0)) (clPI a).aa (.exit 0) (clPZ (ofP a)).aa from clP_loop a ⟨a, ha, rfl⟩) trivial))
def eCleanP : Entry := entry1 14 parN6.x (fun a => [(some (a < 39402006196394479212279040100143613805079739270465446667948293404245721771497210611414266254884915640806627990306816), .ag [.q (ofP a)])])
theorem eCleanP_ok : eCleanP.OK Try.prog := entry1_ok (fun args w => Go.Proofs.enters_of (P := Try.prog) Try.func14 (by kernel_rfl) rfl args w) (fun a => onlyIf (fun h => cleanP a h))
theorem ne_zerosP {x : Fin Pp} (h : x ≠ 0) : ¬ flat [.q x] = flat [.c (.int .u64 0), .c (.int .u64 0), .c (.int .u64 0), .c (.int .u64 0), .c (.int .u64 0), .c (.int .u64 0)] := fun e => h (by
  have := limbs_inj 6 x.val 0 (Nat.lt_trans x.isLt (by decide)) (by decide) (by simpa [flat, Ch.cells, limbs] using e)
  exact Fin.ext this)
def eFAddP : Entry := entry2 34 par1P par1P (fun a b => [(some (smtP a ∧ smtP b), .ag [.q ((eltP a) + (eltP b))])])
theorem eFAddP_ok : eFAddP.OK Try.prog := entry2_ok (fun args w => Go.Proofs.enters_of (P := Try.prog) Try.func34 (by kernel_rfl) rfl args w) (fun a b => match a, b with
  | .inl a, .inl b => onlyIf (fun h => fn_gives (P := Try.prog) (env := [eInPq, eOutP, ePlusP]) ⟨eInPq_ok, eOutP_ok, ePlusP_ok, trivial⟩ Try.func34 1 o0 (by kernel_rfl) trivial)
  | .inl a, .inr b => onlyIf (fun h => fn_gives (P := Try.prog) (env := [eInPq, eOutP, ePlusP]) ⟨eInPq_ok, eOutP_ok, ePlusP_ok, trivial⟩ Try.func34 1 o0 (by kernel_rfl) (And.intro h.2 trivial))
  | .inr a, .inl b => onlyIf (fun h => fn_gives (P := Try.prog) (env := [eInPq, eOutP, ePlusP]) ⟨eInPq_ok, eOutP_ok, ePlusP_ok, trivial⟩ Try.func34 1 o0 (by kernel_rfl) (And.intro h.1 trivial))
  | .inr a, .inr b => onlyIf (fun h => fn_gives (P := Try.prog) (env := [eInPq, eOutP, ePlusP]) ⟨eInPq_ok, eOutP_ok, ePlusP_ok, trivial⟩ Try.func34 1 o0 (by kernel_rfl) (And.intro h.2 (And.intro h.1 trivial))))
def eFCleanP : Entry := entry1 15 par1P (fun a => [(some (smtP a), .ag [.q (eltP a)])])
theorem eFCleanP_ok : eFCleanP.OK Try.prog := entry1_ok (fun args w => Go.Proofs.enters_of (P := Try.prog) Try.func15 (by kernel_rfl) rfl args w) (fun a => match a with
  | .inl a => onlyIf (fun h => fn_gives (P := Try.prog) (env := [eInPq, eOutP]) ⟨eInPq_ok, eOutP_ok, trivial⟩ Try.func15 1 o0 (by kernel_rfl) trivial)
  | .inr a => onlyIf (fun h => fn_gives (P := Try.prog) (env := [eInPq, eOutP]) ⟨eInPq_ok, eOutP_ok, trivial⟩ Try.func15 1 o0 (by kernel_rfl) (And.intro h trivial)))
def eAlP : Entry := entry0 11 [(none, .v (.bool true))]
theorem eAlP_ok : eAlP.OK Try.prog := entry0_ok (fun args w => Go.Proofs.enters_of (P := Try.prog) Try.func11 (by kernel_rfl) rfl args w) (only (fn_gives (P := Try.prog) (env := [eFAddP]) ⟨eFAddP_ok, trivial⟩ Try.func11 0 o0 (r := .v (.bool true)) (by kernel_rfl)
    (And.intro (show flat [.q (ofP 1 + ofP 1)] = flat [.c (.int .u64 2), .c (.int .u64 0), .c (.int .u64 0), .c (.int .u64 0), .c (.int .u64 0), .c (.int .u64 0)] from by kernel_rfl) (And.intro (show smtP (.inr 1) ∧ smtP (.inr 1) from ⟨by unfold smtP smP; decide, by unfold smtP smP; decide⟩) trivial))))
end Go.Proofs.Ytoahfmgdlpgjoaa
