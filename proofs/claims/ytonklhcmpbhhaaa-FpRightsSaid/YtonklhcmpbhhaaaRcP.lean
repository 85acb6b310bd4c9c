/- Contracts: small numbers, of the layer fp and of its reference. -/
import Derived.Test.YtonklhcmpbhhaaaRbP
set_option linter.unusedSimpArgs false
set_option linter.unusedVariables false
namespace Go.Proofs.Ytonklhcmpbhhaaa
open Go.Ev Go.RowKit

def eSmP : Entry := entry1 72 XPar.lim (fun h => [(none, .ag [.m (ofP (h % 18446744073709551616))])])
theorem eSmP_ok : eSmP.OK Try.prog := entry1_ok (fun args w => Go.Proofs.enters_of (P := Try.prog) Try.func72 (by kernel_rfl) rfl args w) (fun h => only (fn_gives (P := Try.prog) (env := [eInPq]) ⟨eInPq_ok, trivial⟩ Try.func72 0 o0 (by kernel_rfl) (And.intro (show smP (h % 18446744073709551616) from Nat.lt_trans (Nat.mod_lt _ (by decide)) (by decide)) trivial)))
theorem smallP_up (n : Int) (h0 : 0 ≤ n) (h1 : n < 9223372036854775808) : Gives Try.prog 25 [.t (.v (.int .i64 n))] (.ag [.q (ofP n.toNat)]) :=
  (fn_gives (P := Try.prog) (env := [eSmP, eOutP]) ⟨eSmP_ok, eOutP_ok, trivial⟩ Try.func25 0 (oN [(4, n.toNat, 0)] [(2, 2), (4, 2)]) (r := .ag [.q (ofP (n.toNat % 18446744073709551616))]) (by kernel_rfl)
    (And.intro (show IntKind.u64 = IntKind.u64 ∧ IntKind.u64.wrap n = ((n.toNat % 18446744073709551616 : Nat) : Int) from ⟨rfl, by rw [wrap_u64]; omega⟩) (And.intro (show decide (n < 0) = false from decide_eq_false (by omega)) trivial))).same (by rw [Nat.mod_eq_of_lt (show n.toNat < 18446744073709551616 by omega)])
theorem smallP_down (n : Int) (h0 : n < 0) (h1 : -9223372036854775808 ≤ n) : Gives Try.prog 25 [.t (.v (.int .i64 n))] (.ag [.q (-(ofP (-n).toNat))]) :=
  (fn_gives (P := Try.prog) (env := [eSmP, eOutP, eNegP]) ⟨eSmP_ok, eOutP_ok, eNegP_ok, trivial⟩ Try.func25 0 (oN [(4, (18446744073709551616 + n).toNat, 0)] [(2, 1), (4, 2)]) (r := .ag [.q (-(ofP ((18446744073709551616 - (18446744073709551616 + n).toNat % 18446744073709551616) % 18446744073709551616)))]) (by kernel_rfl)
    (And.intro (show IntKind.u64 = IntKind.u64 ∧ IntKind.u64.wrap n = (((18446744073709551616 + n).toNat % 18446744073709551616 : Nat) : Int) from ⟨rfl, by rw [wrap_u64]; omega⟩) (And.intro (show decide (n < 0) = true from decide_eq_true h0) trivial))).same (by rw [show (18446744073709551616 - (18446744073709551616 + n).toNat % 18446744073709551616) % 18446744073709551616 = (-n).toNat by omega])
def eFSmallP : Entry := entry1 25 (XPar.int .i64) (fun n => [(some (0 ≤ n ∧ n < 9223372036854775808), .ag [.q (ofP n.toNat)]), (some (n < 0 ∧ -9223372036854775808 ≤ n), .ag [.q (-(ofP (-n).toNat))])])
theorem eFSmallP_ok : eFSmallP.OK Try.prog := entry1_ok (fun args w => Go.Proofs.enters_of (P := Try.prog) Try.func25 (by kernel_rfl) rfl args w) (fun n c r hm hc => by
  simp only [List.mem_cons, Prod.mk.injEq, List.not_mem_nil, or_false] at hm
  rcases hm with ⟨rfl, rfl⟩ | ⟨rfl, rfl⟩
  · exact smallP_up n hc.1 hc.2
  · exact smallP_down n hc.1 hc.2)
theorem smallP_cells (h : Nat) (hh : h < 18446744073709551616) : (AV.ag [.q (ofP h)]).val? = (AV.ag [.n 1 h, .c (.int .u64 0), .c (.int .u64 0), .c (.int .u64 0), .c (.int .u64 0), .c (.int .u64 0)]).val? := by
  have h1 := join_val (w := 6) (l := [.n 1 h, .c (.int .u64 0), .c (.int .u64 0), .c (.int .u64 0), .c (.int .u64 0), .c (.int .u64 0)]) (x := h % 18446744073709551616 + 18446744073709551616 * 0) rfl
  rw [← h1]
  refine ag_same rfl rfl ?_
  have h2 : (ofP h).val = h := Nat.mod_eq_of_lt (Nat.lt_trans hh (by decide))
  simp only [flat, Ch.cells, h2]
  rw [Nat.mod_eq_of_lt hh, Nat.mul_zero, Nat.add_zero]
theorem smallPr_up (n : Int) (h0 : 0 ≤ n) (h1 : n < 9223372036854775808) : Gives Try.prog 26 [.t (.v (.int .i64 n))] (.ag [.q (ofP n.toNat)]) :=
  (fn_gives (P := Try.prog) (env := []) trivial Try.func26 0 (oN [(4, n.toNat, 0)] [(2, 1), (4, 2)]) (r := .ag [.n 1 n.toNat, .c (.int .u64 0), .c (.int .u64 0), .c (.int .u64 0), .c (.int .u64 0), .c (.int .u64 0)]) (by kernel_rfl)
    (And.intro (show IntKind.u64 = IntKind.u64 ∧ IntKind.u64.wrap n = ((n.toNat % 18446744073709551616 : Nat) : Int) from ⟨rfl, by rw [wrap_u64]; omega⟩) (And.intro (show decide (n ≥ 0) = true from decide_eq_true h0) trivial))).same (smallP_cells _ (by omega))
theorem smallPr_down (n : Int) (h0 : n < 0) (h1 : -9223372036854775808 ≤ n) : Gives Try.prog 26 [.t (.v (.int .i64 n))] (.ag [.q (-(ofP (-n).toNat))]) := by
  refine (fn_gives (P := Try.prog) (env := [eRRP, eminusP]) ⟨eRRP_ok, eminusP_ok, trivial⟩ Try.func26 0 (oN [(7, (-n - 1).toNat, 0)] [(2, 2), (7, 2)]) (r := .ag [.n 6 ((4002409555221667393417789825735904156556882819939007885332058136124031650490837864442687629129015664037894272559787 + 39402006196394479212279040100143613805079739270465446667948293404245721771497210611414266254884915640806627990306816 - ((-n - 1).toNat + 1) % 18446744073709551616) % 39402006196394479212279040100143613805079739270465446667948293404245721771497210611414266254884915640806627990306816)]) (by kernel_rfl)
    (And.intro (show 4002409555221667393417789825735904156556882819939007885332058136124031650490837864442687629129015664037894272559787 < 39402006196394479212279040100143613805079739270465446667948293404245721771497210611414266254884915640806627990306816 ∧ ((-n - 1).toNat + 1) % 18446744073709551616 < 39402006196394479212279040100143613805079739270465446667948293404245721771497210611414266254884915640806627990306816 from ⟨by decide, Nat.lt_trans (Nat.mod_lt _ (by decide)) (by decide)⟩) (And.intro (show IntKind.u64 = IntKind.u64 ∧ IntKind.u64.wrap (IntKind.i64.wrap (0 - IntKind.i64.wrap (n + 1))) = (((-n - 1).toNat % 18446744073709551616 : Nat) : Int) from ⟨rfl, by rw [wrap_u64]; simp only [wrap_i64]; omega⟩) (And.intro (show decide (n ≥ 0) = false from decide_eq_false (by omega)) trivial)))).same ?_
  refine ag_same rfl rfl ?_
  have e1 : (ofP (-n).toNat).val = (-n).toNat := Nat.mod_eq_of_lt (by show (-n).toNat < 4002409555221667393417789825735904156556882819939007885332058136124031650490837864442687629129015664037894272559787; omega)
  have e2 : (-(ofP (-n).toNat)).val = 4002409555221667393417789825735904156556882819939007885332058136124031650490837864442687629129015664037894272559787 - (-n).toNat := by rw [Fin.neg_def]; show (4002409555221667393417789825735904156556882819939007885332058136124031650490837864442687629129015664037894272559787 - (ofP (-n).toNat).val) % 4002409555221667393417789825735904156556882819939007885332058136124031650490837864442687629129015664037894272559787 = _; rw [e1]; omega
  simp only [flat, Ch.cells, e2]
  rw [show (4002409555221667393417789825735904156556882819939007885332058136124031650490837864442687629129015664037894272559787 + 39402006196394479212279040100143613805079739270465446667948293404245721771497210611414266254884915640806627990306816 - ((-n - 1).toNat + 1) % 18446744073709551616) % 39402006196394479212279040100143613805079739270465446667948293404245721771497210611414266254884915640806627990306816 = 4002409555221667393417789825735904156556882819939007885332058136124031650490837864442687629129015664037894272559787 - (-n).toNat by omega]
def eSmallPr : Entry := entry1 26 (XPar.int .i64) (fun n => [(some (0 ≤ n ∧ n < 9223372036854775808), .ag [.q (ofP n.toNat)]), (some (n < 0 ∧ -9223372036854775808 ≤ n), .ag [.q (-(ofP (-n).toNat))])])
theorem eSmallPr_ok : eSmallPr.OK Try.prog := entry1_ok (fun args w => Go.Proofs.enters_of (P := Try.prog) Try.func26 (by kernel_rfl) rfl args w) (fun n c r hm hc => by
  simp only [List.mem_cons, Prod.mk.injEq, List.not_mem_nil, or_false] at hm
  rcases hm with ⟨rfl, rfl⟩ | ⟨rfl, rfl⟩
  · exact smallPr_up n hc.1 hc.2
  · exact smallPr_down n hc.1 hc.2)
end Go.Proofs.Ytonklhcmpbhhaaa
