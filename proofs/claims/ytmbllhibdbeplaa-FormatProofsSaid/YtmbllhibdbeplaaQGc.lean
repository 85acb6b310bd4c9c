/- Pruned: Gc. -/
import Derived.Test.YtmbllhibdbeplaaQGb
import Derived.Test.YtmbllhibdbeplaaQGr
import Derived.Test.YtmbllhibdbeplaaQGa
import Derived.Test.YtmbllhibdbeplaaQZhRiP
import Derived.WalkKit
import Derived.RegionTactic
import Derived.ChangeAlike
import Derived.Laws.BytesString
/- Contracts of the points of curve 1: doubles, sums, multiples. -/
set_option linter.unusedSimpArgs false
set_option linter.unusedVariables false
namespace Go.Proofs.Ytmbllhibdbeplaa
open Go.Ev Go.RowKit

def pc1 (p : Pt1) : List Ch := [.m (p).1, .m (p).2.1, .m (p).2.2]
def parPt1 : Par Pt1 := (parM.pair (parM.pair parM))
def eIsZ1 : Entry := eIsZeroP
theorem eIsZ1_ok : eIsZ1.OK Try.prog := eIsZeroP_ok
theorem twice1_0 (p : Pt1) (h : p.2.2 = 0) : Gives Try.prog 108 [.t (.ag (pc1 p))] (.ag (pc1 (twc1 p))) := by
  unfold twc1
  rw [if_pos h]
  exact fn_gives (P := Try.prog) (env := [eIsZ1, ePlusP, eMinusP, eTimesP]) ⟨eIsZ1_ok, ePlusP_ok, eMinusP_ok, eTimesP_ok, trivial⟩ Try.func108 0 (oL [(5, wO 0)]) (by kernel_rfl) (And.intro h trivial)
theorem twice1_1 (p : Pt1) (h : p.2.2 ≠ 0) : Gives Try.prog 108 [.t (.ag (pc1 p))] (.ag (pc1 (twc1 p))) := by
  unfold twc1
  rw [if_neg h]
  exact fn_gives (P := Try.prog) (env := [eIsZ1, ePlusP, eMinusP, eTimesP]) ⟨eIsZ1_ok, ePlusP_ok, eMinusP_ok, eTimesP_ok, trivial⟩ Try.func108 0 (oL [(5, wO 1)]) (by kernel_rfl) (And.intro h trivial)
def eTwice1 : Entry := entry1 108 parPt1.x (fun p => [(none, .ag (pc1 (twc1 p)))])
theorem eTwice1_ok : eTwice1.OK Try.prog := entry1_ok (fun args w => Go.Proofs.enters_of (P := Try.prog) Try.func108 (by kernel_rfl) rfl args w) (fun p => only (by
  by_cases h : p.2.2 = 0
  · exact twice1_0 p h
  · exact twice1_1 p h))
theorem plus1 (p q : Pt1) : Gives Try.prog 106 [.t (.ag (pc1 p)), .t (.ag (pc1 q))] (.ag (pc1 (sum1 p q))) := by
  unfold sum1
  by_cases h1 : p.2.2 = 0
  · rw [if_pos h1]
    exact fn_gives (P := Try.prog) (env := [eIsZ1, eTwice1, ePlusP, eMinusP, eTimesP]) ⟨eIsZ1_ok, eTwice1_ok, ePlusP_ok, eMinusP_ok, eTimesP_ok, trivial⟩ Try.func106 0 (oL [(6, wO 0)]) (by kernel_rfl) (And.intro h1 trivial)
  · rw [if_neg h1]
    by_cases h2 : q.2.2 = 0
    · rw [if_pos h2]
      exact fn_gives (P := Try.prog) (env := [eIsZ1, eTwice1, ePlusP, eMinusP, eTimesP]) ⟨eIsZ1_ok, eTwice1_ok, ePlusP_ok, eMinusP_ok, eTimesP_ok, trivial⟩ Try.func106 0 (oL [(6, wO 1), (11, wO 0)]) (by kernel_rfl) (And.intro h2 (And.intro h1 trivial))
    · rw [if_neg h2]
      by_cases h3 : hP1 p q = 0
      · rw [if_pos h3]
        by_cases h4 : rP1 p q = 0
        · rw [if_pos h4]
          exact fn_gives (P := Try.prog) (env := [eIsZ1, eTwice1, ePlusP, eMinusP, eTimesP]) ⟨eIsZ1_ok, eTwice1_ok, ePlusP_ok, eMinusP_ok, eTimesP_ok, trivial⟩ Try.func106 0 (oL [(6, wO 1), (11, wO 1), (79, wO 0), (82, wO 0)]) (by kernel_rfl) (And.intro h4 (And.intro h3 (And.intro h2 (And.intro h1 trivial))))
        · rw [if_neg h4]
          refine Gives.same (r := .ag ([.m p.1, .m p.2.1, .c (.int .u64 0), .c (.int .u64 0), .c (.int .u64 0), .c (.int .u64 0), .c (.int .u64 0), .c (.int .u64 0)])) (fn_gives (P := Try.prog) (env := [eIsZ1, eTwice1, ePlusP, eMinusP, eTimesP]) ⟨eIsZ1_ok, eTwice1_ok, ePlusP_ok, eMinusP_ok, eTimesP_ok, trivial⟩ Try.func106 0 (oL [(6, wO 1), (11, wO 1), (79, wO 0), (82, wO 1)]) (by kernel_rfl) (And.intro h4 (And.intro h3 (And.intro h2 (And.intro h1 trivial))))) (ag_same rfl rfl ?_)
          show flat ([.m p.1, .m p.2.1] ++ [.m (0 : Fin Pp)]) = flat ([.m p.1, .m p.2.1] ++ [.c (.int .u64 0), .c (.int .u64 0), .c (.int .u64 0), .c (.int .u64 0), .c (.int .u64 0), .c (.int .u64 0)])
          rw [flat_append, flat_append, zero_m]
      · rw [if_neg h3]
        exact fn_gives (P := Try.prog) (env := [eIsZ1, eTwice1, ePlusP, eMinusP, eTimesP]) ⟨eIsZ1_ok, eTwice1_ok, ePlusP_ok, eMinusP_ok, eTimesP_ok, trivial⟩ Try.func106 0 (oL [(6, wO 1), (11, wO 1), (79, wO 1)]) (by kernel_rfl) (And.intro h3 (And.intro h2 (And.intro h1 trivial)))
def ePlusC1 : Entry := entry2 106 parPt1.x parPt1.x (fun p q => [(none, .ag (pc1 (sum1 p q)))])
theorem ePlusC1_ok : ePlusC1.OK Try.prog := entry2_ok (fun args w => Go.Proofs.enters_of (P := Try.prog) Try.func106 (by kernel_rfl) rfl args w) (fun p q => only (plus1 p q))

/-! ### Multiples -/
def tabC1 (p : Pt1) : List Ch := [.m p.1, .m p.2.1, .c (.int .u64 0), .c (.int .u64 0), .c (.int .u64 0), .c (.int .u64 0), .c (.int .u64 0), .c (.int .u64 0), .m (tab1 p 1).1, .m (tab1 p 1).2.1, .m (tab1 p 1).2.2, .m (tab1 p 2).1, .m (tab1 p 2).2.1, .m (tab1 p 2).2.2, .m (tab1 p 3).1, .m (tab1 p 3).2.1, .m (tab1 p 3).2.2, .m (tab1 p 4).1, .m (tab1 p 4).2.1, .m (tab1 p 4).2.2, .m (tab1 p 5).1, .m (tab1 p 5).2.1, .m (tab1 p 5).2.2, .m (tab1 p 6).1, .m (tab1 p 6).2.1, .m (tab1 p 6).2.2, .m (tab1 p 7).1, .m (tab1 p 7).2.1, .m (tab1 p 7).2.2, .m (tab1 p 8).1, .m (tab1 p 8).2.1, .m (tab1 p 8).2.2, .m (tab1 p 9).1, .m (tab1 p 9).2.1, .m (tab1 p 9).2.2, .m (tab1 p 10).1, .m (tab1 p 10).2.1, .m (tab1 p 10).2.2, .m (tab1 p 11).1, .m (tab1 p 11).2.1, .m (tab1 p 11).2.2, .m (tab1 p 12).1, .m (tab1 p 12).2.1, .m (tab1 p 12).2.2, .m (tab1 p 13).1, .m (tab1 p 13).2.1, .m (tab1 p 13).2.2, .m (tab1 p 14).1, .m (tab1 p 14).2.1, .m (tab1 p 14).2.2, .m (tab1 p 15).1, .m (tab1 p 15).2.1, .m (tab1 p 15).2.2]
theorem pc1_size (p : Pt1) : (flat (pc1 p)).length = 18 := by rw [flat_length]; rfl
theorem tabC1_flat (p : Pt1) : flat (tabC1 p) = (List.range 16).flatMap (fun j => flat (pc1 (tab1 p j))) := by
  have e0 : flat (pc1 (tab1 p 0)) = flat [.m p.1, .m p.2.1, .c (.int .u64 0), .c (.int .u64 0), .c (.int .u64 0), .c (.int .u64 0), .c (.int .u64 0), .c (.int .u64 0)] := by
    show flat ([.m p.1, .m p.2.1] ++ [.m (0 : Fin Pp)]) = flat ([.m p.1, .m p.2.1] ++ [.c (.int .u64 0), .c (.int .u64 0), .c (.int .u64 0), .c (.int .u64 0), .c (.int .u64 0), .c (.int .u64 0)])
    rw [flat_append, flat_append, zero_m]
  have e1 : tabC1 p = [.m p.1, .m p.2.1, .c (.int .u64 0), .c (.int .u64 0), .c (.int .u64 0), .c (.int .u64 0), .c (.int .u64 0), .c (.int .u64 0)] ++ (pc1 (tab1 p 1) ++ (pc1 (tab1 p 2) ++ (pc1 (tab1 p 3) ++ (pc1 (tab1 p 4) ++ (pc1 (tab1 p 5) ++ (pc1 (tab1 p 6) ++ (pc1 (tab1 p 7) ++ (pc1 (tab1 p 8) ++ (pc1 (tab1 p 9) ++ (pc1 (tab1 p 10) ++ (pc1 (tab1 p 11) ++ (pc1 (tab1 p 12) ++ (pc1 (tab1 p 13) ++ (pc1 (tab1 p 14) ++ pc1 (tab1 p 15))))))))))))))) := rfl
  rw [e1]
  simp only [flat_append, ← e0]
  simp [List.range_succ_eq_map, List.flatMap]
theorem tabC1_at (p : Pt1) (j : Nat) (h : j < 16) : ((flat (tabC1 p)).drop (0 + j * 18)).take 18 = flat (pc1 (tab1 p j)) := by
  rw [Nat.zero_add, tabC1_flat]
  exact drop_flatMap (fun j => flat (pc1 (tab1 p j))) 18 (fun j => pc1_size _) 16 j h
def maI1 (r : Array Tmp × Code × Code) (p : Pt1) (k : Nat) (b : Bool) (z : Int) (o : List Ch) : LState := { n := 32, sl := [(0, .yd 235), (1, .p 230 0), (3, .v (.bool b)), (4, .v (.int .i64 z))], hp := [(0, .own (pc1 p) 150), (1, .own [.n 4 k] 32), (2, .own [.c (.int .u64 0), .c (.int .u64 0), .c (.int .u64 0), .c (.int .u64 0), .c (.int .u64 0), .c (.int .u64 0), .c (.int .u64 0), .c (.int .u64 0), .c (.int .u64 0), .c (.int .u64 0), .c (.int .u64 0), .c (.int .u64 0), .c (.int .u64 0), .c (.int .u64 0), .c (.int .u64 0), .c (.int .u64 0), .c (.int .u64 0), .c (.int .u64 0)] 150), (3, .own (tabC1 p) 175), (226, .own o 150), (230, .own [.n 4 k] 32), (234, .dfd),
  (235, .lp .ready none ⟨43, .any, trOf [(5, .p 3 0), (7, .p 226 0)]⟩ r.1 r.2.1 r.2.2 234)] }
def maZ1 (r : Array Tmp × Code × Code) (p : Pt1) (k : Nat) (o : List Ch) : LState := { n := 32, sl := [], hp := [(0, .own (pc1 p) 150), (1, .own [.n 4 k] 32), (2, .own [.c (.int .u64 0), .c (.int .u64 0), .c (.int .u64 0), .c (.int .u64 0), .c (.int .u64 0), .c (.int .u64 0), .c (.int .u64 0), .c (.int .u64 0), .c (.int .u64 0), .c (.int .u64 0), .c (.int .u64 0), .c (.int .u64 0), .c (.int .u64 0), .c (.int .u64 0), .c (.int .u64 0), .c (.int .u64 0), .c (.int .u64 0), .c (.int .u64 0)] 150), (3, .own (tabC1 p) 175), (226, .own o 150), (230, .own [.n 4 k] 32), (234, .dfd),
  (235, .lp .ready none ⟨43, .any, trOf [(5, .p 3 0), (7, .p 226 0)]⟩ r.1 r.2.1 r.2.2 234)] }
theorem ma1_a (p q : Pt1) (k i : Nat) (hi : i < 64)  : Sound Try.prog 236 false (loopB Try.f118 0) (maI1 (rangeB Try.f85 0) p k true ((((i + 1 : Nat) : Int)) - 1) (pc1 q)).aa .normal (maI1 (rangeB Try.f85 0) p k true (((i : Nat) : Int) - 1) (pc1 (sum1 (twc1 (twc1 (twc1 (twc1 q)))) (tab1 p (dig k i))))).aa := by
  have hs := roundK_sound (P := Try.prog) (X := rulesX _) (env := [eTwice1, ePlusC1]) ⟨eTwice1_ok, ePlusC1_ok, trivial⟩ (n := 2) (os := oL [(239, wO 1), (242, rO 2 (i / 16)), (243, rO 3 0), (247, rO 4 (4 * (i % 16))), (249, { ch := 1, hi := fun _ => dig k i }), (291, rO 2 (dig k i)), (292, { ch := 0, hi := fun _ => 0, ru := 8, cs := fun _ => pc1 (tab1 p (dig k i)) })]) (fb := 236) (rd := false) (c := loopB Try.f118 0) (k := 238) (I := maI1 (rangeB Try.f85 0) p k true ((((i + 1 : Nat) : Int)) - 1) (pc1 q)) (sk := [0, 1, 3, 4]) (hk := [0, 1, 2, 3, 226, 230, 234, 235]) (lk := [(235, [5, 7])]) (ex := .normal)
    (L := maI1 (rangeB Try.f85 0) p k true (IntKind.i64.wrap ((((i + 1 : Nat) : Int) - 1) - 1)) (pc1 (sum1 (twc1 (twc1 (twc1 (twc1 q)))) (tab1 p (dig k i))))) (by kernel_rfl) (And.intro (show sizes (pc1 (tab1 p (dig k i))) = 18 ∧ ((flat (tabC1 p)).drop (0 + dig k i * 18)).take 18 = flat (pc1 (tab1 p (dig k i))) from ⟨rfl, tabC1_at p _ (dig_lt k i)⟩) (And.intro (show ((dig k i : Nat) : Int) = ((dig k i : Nat) : Int) ∧ dig k i < 16 from ⟨rfl, dig_lt k i⟩) (And.intro (dq_dig k i) (And.intro (dq_mod i) (And.intro (show 0 + i / 16 * 1 < 4 from by omega) (And.intro (dq_div i hi) (And.intro (show decide (((((i + 1 : Nat) : Int)) - 1) ≥ 0) = true from decide_eq_true (by omega)) trivial)))))))
  rw [show IntKind.i64.wrap ((((i + 1 : Nat) : Int) - 1) - 1) = ((i : Nat) : Int) - 1 by rw [wrap_i64]; omega] at hs
  exact hs
theorem ma1_b (p q : Pt1) (k i : Nat) (hi : i < 64) (hd : ((dig k i : Nat) : Int) > 0) : Sound Try.prog 236 false (loopB Try.f118 0) (maI1 (rangeB Try.f85 0) p k false ((((i + 1 : Nat) : Int)) - 1) (pc1 q)).aa .normal (maI1 (rangeB Try.f85 0) p k true (((i : Nat) : Int) - 1) (pc1 (sum1 (twc1 (twc1 (twc1 (twc1 q)))) (tab1 p (dig k i))))).aa := by
  have hs := roundK_sound (P := Try.prog) (X := rulesX _) (env := [eTwice1, ePlusC1]) ⟨eTwice1_ok, ePlusC1_ok, trivial⟩ (n := 2) (os := oL [(239, wO 1), (242, rO 2 (i / 16)), (243, rO 3 0), (247, rO 4 (4 * (i % 16))), (249, { ch := 1, hi := fun _ => dig k i }), (254, wO 1), (291, rO 2 (dig k i)), (292, { ch := 0, hi := fun _ => 0, ru := 8, cs := fun _ => pc1 (tab1 p (dig k i)) })]) (fb := 236) (rd := false) (c := loopB Try.f118 0) (k := 238) (I := maI1 (rangeB Try.f85 0) p k false ((((i + 1 : Nat) : Int)) - 1) (pc1 q)) (sk := [0, 1, 3, 4]) (hk := [0, 1, 2, 3, 226, 230, 234, 235]) (lk := [(235, [5, 7])]) (ex := .normal)
    (L := maI1 (rangeB Try.f85 0) p k true (IntKind.i64.wrap ((((i + 1 : Nat) : Int) - 1) - 1)) (pc1 (sum1 (twc1 (twc1 (twc1 (twc1 q)))) (tab1 p (dig k i))))) (by kernel_rfl) (And.intro (show sizes (pc1 (tab1 p (dig k i))) = 18 ∧ ((flat (tabC1 p)).drop (0 + dig k i * 18)).take 18 = flat (pc1 (tab1 p (dig k i))) from ⟨rfl, tabC1_at p _ (dig_lt k i)⟩) (And.intro (show ((dig k i : Nat) : Int) = ((dig k i : Nat) : Int) ∧ dig k i < 16 from ⟨rfl, dig_lt k i⟩) (And.intro (show decide (((dig k i : Nat) : Int) > 0) = true from decide_eq_true hd) (And.intro (dq_dig k i) (And.intro (dq_mod i) (And.intro (show 0 + i / 16 * 1 < 4 from by omega) (And.intro (dq_div i hi) (And.intro (show decide (((((i + 1 : Nat) : Int)) - 1) ≥ 0) = true from decide_eq_true (by omega)) trivial))))))))
  rw [show IntKind.i64.wrap ((((i + 1 : Nat) : Int) - 1) - 1) = ((i : Nat) : Int) - 1 by rw [wrap_i64]; omega] at hs
  exact hs
theorem ma1_c (p q : Pt1) (k i : Nat) (hi : i < 64) (hd : ¬ ((dig k i : Nat) : Int) > 0) : Sound Try.prog 236 false (loopB Try.f118 0) (maI1 (rangeB Try.f85 0) p k false ((((i + 1 : Nat) : Int)) - 1) (pc1 q)).aa .normal (maI1 (rangeB Try.f85 0) p k false (((i : Nat) : Int) - 1) (pc1 q)).aa := by
  have hs := roundK_sound (P := Try.prog) (X := rulesX _) (env := [eTwice1, ePlusC1]) ⟨eTwice1_ok, ePlusC1_ok, trivial⟩ (n := 2) (os := oL [(239, wO 1), (242, rO 2 (i / 16)), (243, rO 3 0), (247, rO 4 (4 * (i % 16))), (249, { ch := 1, hi := fun _ => dig k i }), (254, wO 2)]) (fb := 236) (rd := false) (c := loopB Try.f118 0) (k := 238) (I := maI1 (rangeB Try.f85 0) p k false ((((i + 1 : Nat) : Int)) - 1) (pc1 q)) (sk := [0, 1, 3, 4]) (hk := [0, 1, 2, 3, 226, 230, 234, 235]) (lk := [(235, [5, 7])]) (ex := .normal)
    (L := maI1 (rangeB Try.f85 0) p k false (IntKind.i64.wrap ((((i + 1 : Nat) : Int) - 1) - 1)) (pc1 q)) (by kernel_rfl) (And.intro (show decide (((dig k i : Nat) : Int) > 0) = false from decide_eq_false hd) (And.intro (dq_dig k i) (And.intro (dq_mod i) (And.intro (show 0 + i / 16 * 1 < 4 from by omega) (And.intro (dq_div i hi) (And.intro (show decide (((((i + 1 : Nat) : Int)) - 1) ≥ 0) = true from decide_eq_true (by omega)) trivial))))))
  rw [show IntKind.i64.wrap ((((i + 1 : Nat) : Int) - 1) - 1) = ((i : Nat) : Int) - 1 by rw [wrap_i64]; omega] at hs
  exact hs
theorem ma1_end (p q : Pt1) (k : Nat) (b : Bool) : Sound Try.prog 236 false (loopB Try.f118 0) (maI1 (rangeB Try.f85 0) p k b (((0 : Nat) : Int) - 1) (pc1 q)).aa (.exit 0) (maZ1 (rangeB Try.f85 0) p k (pc1 q)).aa :=
  roundK_sound (P := Try.prog) (X := rulesX _) (env := []) trivial (n := 2) (os := oL [(239, wO 2)]) (fb := 236) (rd := false) (c := loopB Try.f118 0) (k := 238) (I := maI1 (rangeB Try.f85 0) p k b (((0 : Nat) : Int) - 1) (pc1 q)) (sk := []) (hk := [0, 1, 2, 3, 226, 230, 234, 235]) (lk := [(235, [5, 7])]) (ex := .exit 0)
    (L := maZ1 (rangeB Try.f85 0) p k (pc1 q)) (by kernel_rfl) (And.intro (show decide ((((0 : Nat) : Int) - 1) ≥ 0) = false from by decide) trivial)
theorem ma1_loop (p : Pt1) (k : Nat) (hk : k < 115792089237316195423570985008687907853269984665640564039457584007913129639936) (y : { i : Nat // i ≤ 64 }) : Sound Try.prog 236 false (.loop (loopB Try.f118 0)) (maI1 (rangeB Try.f85 0) p k (bgn k (64 - y.val)) (((y.val : Nat) : Int) - 1) (pc1 (man1 p k (64 - y.val)))).aa (.exit 0) (maZ1 (rangeB Try.f85 0) p k (pc1 (man1 p k 64))).aa := by
  refine loop_ok (m := fun y : { i : Nat // i ≤ 64 } => y.val) (fun y => maI1 (rangeB Try.f85 0) p k (bgn k (64 - y.val)) (((y.val : Nat) : Int) - 1) (pc1 (man1 p k (64 - y.val)))) (by simp) (fun y => ?_) y
  obtain ⟨i, hi⟩ := y
  cases i with
  | zero => exact .inr (ma1_end p _ k _)
  | succ i =>
    refine .inl ⟨⟨i, by omega⟩, Nat.lt_succ_self i, ?_⟩
    have e1 : 64 - i = (64 - (i + 1)) + 1 := by omega
    have e2 : 63 - (64 - (i + 1)) = i := by omega
    have hb := bgn_step k (64 - (i + 1)) (by omega)
    rw [e2, ← e1] at hb
    have hm : man1 p k (64 - i) = sum1 (twc1 (twc1 (twc1 (twc1 (man1 p k (64 - (i + 1))))))) (tab1 p (dig k i)) := by
      rw [e1]
      show sum1 _ (tab1 p (dig k (63 - (64 - (i + 1))))) = _
      rw [e2]
    simp only
    rw [hm]
    cases hc : bgn k (64 - (i + 1)) with
    | true =>
      rw [hc] at hb
      simp only [Bool.true_or] at hb
      rw [hb]
      exact ma1_a p _ k i (by omega)
    | false =>
      rw [hc] at hb
      simp only [Bool.false_or] at hb
      by_cases hd : ((dig k i : Nat) : Int) > 0
      · rw [hb, decide_eq_true (by omega)]
        exact ma1_b p _ k i (by omega) hd
      · have h0 : dig k i = 0 := by omega
        rw [hb, decide_eq_false (by omega)]
        have hn := man1_none p k (64 - (i + 1)) (bgn_not hk _ (by omega) hc)
        rw [hn, h0, twc1_inf _ rfl, twc1_inf _ rfl, twc1_inf _ rfl, twc1_inf _ rfl, sum1_inf _ _ rfl]
        exact ma1_c p _ k i (by omega) hd
theorem ma1_all (p : Pt1) (k : Nat) (hk : k < 115792089237316195423570985008687907853269984665640564039457584007913129639936) : Sound Try.prog 236 false (.loop (loopB Try.f118 0)) (maI1 (rangeB Try.f85 0) p k false 63 [.m p.1, .m p.2.1, .c (.int .u64 0), .c (.int .u64 0), .c (.int .u64 0), .c (.int .u64 0), .c (.int .u64 0), .c (.int .u64 0)]).aa (.exit 0) (maZ1 (rangeB Try.f85 0) p k (pc1 (man1 p k 64))).aa := by
  have hl := ma1_loop p k hk ⟨64, Nat.le_refl _⟩
  simp only [Nat.sub_self, bgn_zero hk] at hl
  refine Sound.pre (J := maI1 (rangeB Try.f85 0) p k false (((64 : Nat) : Int) - 1) (pc1 (man1 p k 0))) hl [] (by kernel_rfl) ?_
  have e0 : flat [.m p.1, .m p.2.1, .c (.int .u64 0), .c (.int .u64 0), .c (.int .u64 0), .c (.int .u64 0), .c (.int .u64 0), .c (.int .u64 0)] = flat (pc1 (man1 p k 0)) := by
    symm
    show flat ([.m p.1, .m p.2.1] ++ [.m (0 : Fin Pp)]) = flat ([.m p.1, .m p.2.1] ++ [.c (.int .u64 0), .c (.int .u64 0), .c (.int .u64 0), .c (.int .u64 0), .c (.int .u64 0), .c (.int .u64 0)])
    rw [flat_append, flat_append, zero_m]
  exact ⟨⟨rfl, ⟨rfl, rfl⟩, rfl, rfl, trivial⟩, ⟨⟨rfl, rfl⟩, ⟨rfl, rfl⟩, ⟨rfl, rfl⟩, ⟨rfl, rfl⟩, ⟨rfl, e0⟩, ⟨rfl, rfl⟩, trivial, ⟨⟨rfl, rfl, rfl, rfl, rfl, rfl, rfl⟩, rowFit_self (by kernel_rfl)⟩, trivial⟩⟩
theorem many1 (p : Pt1) (k : Nat) (hk : k < 115792089237316195423570985008687907853269984665640564039457584007913129639936) : Gives Try.prog 85 [.t (.ag (pc1 p)), .t (.ag [.n 4 k])] (.ag (pc1 (man1 p k 64))) :=
  fn_gives_at (P := Try.prog) (X := rulesX _) (env := [eTwice1, ePlusC1]) ⟨eTwice1_ok, ePlusC1_ok, trivial⟩ Try.func85 2 (oL [(238, lpO { I := maI1 (rangeB Try.f85 0) p k false 63 [.m p.1, .m p.2.1, .c (.int .u64 0), .c (.int .u64 0), .c (.int .u64 0), .c (.int .u64 0), .c (.int .u64 0), .c (.int .u64 0)], ex := .exit 0, E := maZ1 (rangeB Try.f85 0) p k (pc1 (man1 p k 64)), fr := 239, lk := [(235, [5, 7])] })]) (by kernel_rfl) ⟨_, rfl⟩
    (And.intro (show some (maI1 (rangeB Try.f85 0) p k false 63 [.m p.1, .m p.2.1, .c (.int .u64 0), .c (.int .u64 0), .c (.int .u64 0), .c (.int .u64 0), .c (.int .u64 0), .c (.int .u64 0)]) = some (maI1 (rangeB Try.f85 0) p k false 63 [.m p.1, .m p.2.1, .c (.int .u64 0), .c (.int .u64 0), .c (.int .u64 0), .c (.int .u64 0), .c (.int .u64 0), .c (.int .u64 0)]) from rfl) (And.intro (ma1_all p k hk) trivial))
def eMany1 : Entry := entry2 85 parPt1.x parN4.x (fun p k => [(some (k < 115792089237316195423570985008687907853269984665640564039457584007913129639936), .ag (pc1 (man1 p k 64)))])
theorem eMany1_ok : eMany1.OK Try.prog := entry2_ok (fun args w => Go.Proofs.enters_of (P := Try.prog) Try.func85 (by kernel_rfl) rfl args w) (fun p k => onlyIf (fun h => many1 p k h))
end Go.Proofs.Ytmbllhibdbeplaa

/- Contracts: what point of curve 1 may be, what is of its group. -/
set_option linter.unusedSimpArgs false
set_option linter.unusedVariables false
namespace Go.Proofs.Ytmbllhibdbeplaa
open Go.Ev Go.RowKit

theorem on1_no1 (x y : Nat) (hx : small x) (hy : small y) (h : ¬ flat [.q (ofP x)] = flat [.n 6 x]) : Gives Try.prog 83 [.t (.ag [.n 6 x, .n 6 y, .c (.bool false)])] (.v (.bool false)) :=
  fn_gives (P := Try.prog) (env := [eInP, eOutP, eTimesP, ePlusP, eSmP]) ⟨eInP_ok, eOutP_ok, eTimesP_ok, ePlusP_ok, eSmP_ok, trivial⟩ Try.func83 1 (oL [(18, wO 1)]) (by kernel_rfl)
      (And.intro (show ¬ flat [.q (ofP x)] = flat [.n 6 x] from h)
      (And.intro (show smP y from hy)
      (And.intro (show smP x from hx) trivial)))
theorem on1_no2 (x y : Nat) (hx : small x) (hy : small y) (h : flat [.q (ofP x)] = flat [.n 6 x]) (h2 : ¬ flat [.q (ofP y)] = flat [.n 6 y]) : Gives Try.prog 83 [.t (.ag [.n 6 x, .n 6 y, .c (.bool false)])] (.v (.bool false)) :=
  fn_gives (P := Try.prog) (env := [eInP, eOutP, eTimesP, ePlusP, eSmP]) ⟨eInP_ok, eOutP_ok, eTimesP_ok, ePlusP_ok, eSmP_ok, trivial⟩ Try.func83 1 (oL [(18, wO 0), (24, wO 1)]) (by kernel_rfl)
      (And.intro (show ¬ flat [.q (ofP y)] = flat [.n 6 y] from h2)
      (And.intro (show flat [.q (ofP x)] = flat [.n 6 x] from h)
      (And.intro (show smP y from hy)
      (And.intro (show smP x from hx) trivial))))
theorem on1_no3 (x y : Nat) (hx : small x) (hy : small y) (h : flat [.q (ofP x)] = flat [.n 6 x]) (h2 : flat [.q (ofP y)] = flat [.n 6 y]) (h3 : ¬ flat [.m (ofP y * ofP y)] = flat [.m (ofP x * ofP x * ofP x + ofP (4 % 18446744073709551616))]) : Gives Try.prog 83 [.t (.ag [.n 6 x, .n 6 y, .c (.bool false)])] (.v (.bool false)) :=
  fn_gives (P := Try.prog) (env := [eInP, eOutP, eTimesP, ePlusP, eSmP]) ⟨eInP_ok, eOutP_ok, eTimesP_ok, ePlusP_ok, eSmP_ok, trivial⟩ Try.func83 1 (oL [(18, wO 0), (24, wO 0), (37, wO 1)]) (by kernel_rfl)
      (And.intro (show ¬ flat [.m (ofP y * ofP y)] = flat [.m (ofP x * ofP x * ofP x + ofP (4 % 18446744073709551616))] from h3)
      (And.intro (show flat [.q (ofP y)] = flat [.n 6 y] from h2)
      (And.intro (show flat [.q (ofP x)] = flat [.n 6 x] from h)
      (And.intro (show smP y from hy)
      (And.intro (show smP x from hx) trivial)))))
theorem on1_ok (x y : Nat) (hx : small x) (hy : small y) (h : flat [.q (ofP x)] = flat [.n 6 x]) (h2 : flat [.q (ofP y)] = flat [.n 6 y]) (h3 : flat [.m (ofP y * ofP y)] = flat [.m (ofP x * ofP x * ofP x + ofP (4 % 18446744073709551616))]) : Gives Try.prog 83 [.t (.ag [.n 6 x, .n 6 y, .c (.bool false)])] (.v (.bool true)) :=
  fn_gives (P := Try.prog) (env := [eInP, eOutP, eTimesP, ePlusP, eSmP]) ⟨eInP_ok, eOutP_ok, eTimesP_ok, ePlusP_ok, eSmP_ok, trivial⟩ Try.func83 1 (oL [(18, wO 0), (24, wO 0), (37, wO 0)]) (by kernel_rfl)
      (And.intro (show flat [.m (ofP y * ofP y)] = flat [.m (ofP x * ofP x * ofP x + ofP (4 % 18446744073709551616))] from h3)
      (And.intro (show flat [.q (ofP y)] = flat [.n 6 y] from h2)
      (And.intro (show flat [.q (ofP x)] = flat [.n 6 x] from h)
      (And.intro (show smP y from hy)
      (And.intro (show smP x from hx) trivial)))))
theorem on1_inf (x y : Nat) (h : flat [.n 6 x, .n 6 y, .c (.bool true)] = flat [.c (.int .u64 0), .c (.int .u64 0), .c (.int .u64 0), .c (.int .u64 0), .c (.int .u64 0), .c (.int .u64 0), .c (.int .u64 0), .c (.int .u64 0), .c (.int .u64 0), .c (.int .u64 0), .c (.int .u64 0), .c (.int .u64 0), .c (.bool true)]) : Gives Try.prog 83 [.t (.ag [.n 6 x, .n 6 y, .c (.bool true)])] (.v (.bool true)) :=
  fn_gives (P := Try.prog) (env := [eInP, eOutP, eTimesP, ePlusP, eSmP]) ⟨eInP_ok, eOutP_ok, eTimesP_ok, ePlusP_ok, eSmP_ok, trivial⟩ Try.func83 1 (oL [(6, wO 0)]) (by kernel_rfl)
      (And.intro (show flat [.n 6 x, .n 6 y, .c (.bool true)] = flat [.c (.int .u64 0), .c (.int .u64 0), .c (.int .u64 0), .c (.int .u64 0), .c (.int .u64 0), .c (.int .u64 0), .c (.int .u64 0), .c (.int .u64 0), .c (.int .u64 0), .c (.int .u64 0), .c (.int .u64 0), .c (.int .u64 0), .c (.bool true)] from h) trivial)
theorem on1_noi (x y : Nat) (h : ¬ flat [.n 6 x, .n 6 y, .c (.bool true)] = flat [.c (.int .u64 0), .c (.int .u64 0), .c (.int .u64 0), .c (.int .u64 0), .c (.int .u64 0), .c (.int .u64 0), .c (.int .u64 0), .c (.int .u64 0), .c (.int .u64 0), .c (.int .u64 0), .c (.int .u64 0), .c (.int .u64 0), .c (.bool true)]) : Gives Try.prog 83 [.t (.ag [.n 6 x, .n 6 y, .c (.bool true)])] (.v (.bool false)) :=
  fn_gives (P := Try.prog) (env := [eInP, eOutP, eTimesP, ePlusP, eSmP]) ⟨eInP_ok, eOutP_ok, eTimesP_ok, ePlusP_ok, eSmP_ok, trivial⟩ Try.func83 1 (oL [(6, wO 1)]) (by kernel_rfl)
      (And.intro (show ¬ flat [.n 6 x, .n 6 y, .c (.bool true)] = flat [.c (.int .u64 0), .c (.int .u64 0), .c (.int .u64 0), .c (.int .u64 0), .c (.int .u64 0), .c (.int .u64 0), .c (.int .u64 0), .c (.int .u64 0), .c (.int .u64 0), .c (.int .u64 0), .c (.int .u64 0), .c (.int .u64 0), .c (.bool true)] from h) trivial)
theorem curve1_iff (x y : Nat) : flat [.m (ofP y * ofP y)] = flat [.m (ofP x * ofP x * ofP x + ofP (4 % 18446744073709551616))] ↔ ofP y * ofP y = rhs1 (ofP x) := by
  rw [show (4 % 18446744073709551616 : Nat) = 4 from rfl]
  unfold rhs1
  exact ⟨fun e => flat_m_inj e, fun e => by rw [e]⟩
theorem on1_yes (a : A1) (hs : sml1 a) (h : may1 a) : Gives Try.prog 83 [.t (.ag [.n 6 a.1, .n 6 a.2.1, .c (.bool a.2.2)])] (.v (.bool true)) := by
  obtain ⟨x, y, b⟩ := a
  obtain ⟨hx, hy⟩ := hs
  cases b with
  | true => exact on1_inf x y ((flat_inf1 hx hy true).2 (by simpa only [may1, if_true] using h))
  | false =>
    have h : is1 x ∧ is1 y ∧ ofP y * ofP y = rhs1 (ofP x) := h
    exact on1_ok x y hx hy ((flat_is1 hx).2 h.1) ((flat_is1 hy).2 h.2.1) ((curve1_iff x y).2 h.2.2)
theorem on1_not (a : A1) (hs : sml1 a) (h : ¬ may1 a) : Gives Try.prog 83 [.t (.ag [.n 6 a.1, .n 6 a.2.1, .c (.bool a.2.2)])] (.v (.bool false)) := by
  obtain ⟨x, y, b⟩ := a
  obtain ⟨hx, hy⟩ := hs
  cases b with
  | true => exact on1_noi x y (fun e => h (by simpa only [may1, if_true] using (flat_inf1 hx hy true).1 e))
  | false =>
    have h : ¬ (is1 x ∧ is1 y ∧ ofP y * ofP y = rhs1 (ofP x)) := h
    by_cases h1 : is1 x
    · by_cases h2 : is1 y
      · exact on1_no3 x y hx hy ((flat_is1 hx).2 h1) ((flat_is1 hy).2 h2) (fun e => h ⟨h1, h2, (curve1_iff x y).1 e⟩)
      · exact on1_no2 x y hx hy ((flat_is1 hx).2 h1) (fun e => h2 ((flat_is1 hy).1 e))
    · exact on1_no1 x y hx hy (fun e => h1 ((flat_is1 hx).1 e))
def altR1 (a : A1) : Alts := [(some (sml1 a ∧ may1 a), .v (.bool true)), (some (sml1 a ∧ ¬ may1 a), .v (.bool false))]
theorem altR1_ok {f : FuncId} {args : A1 → List XV} (h1 : ∀ a, sml1 a → may1 a → Gives Try.prog f (args a) (.v (.bool true))) (h2 : ∀ a, sml1 a → ¬ may1 a → Gives Try.prog f (args a) (.v (.bool false))) : ∀ a c r, (c, r) ∈ altR1 a → c.getD True → Gives Try.prog f (args a) r := by
  intro a c r hm hc
  simp only [altR1, List.mem_cons, Prod.mk.injEq, List.not_mem_nil, or_false] at hm
  rcases hm with ⟨rfl, rfl⟩ | ⟨rfl, rfl⟩
  · exact h1 a hc.1 hc.2
  · exact h2 a hc.1 hc.2
def eOn1 : Entry := entry1 83 parA1.x altR1
theorem eOn1_ok : eOn1.OK Try.prog := entry1_ok (fun args w => Go.Proofs.enters_of (P := Try.prog) Try.func83 (by kernel_rfl) rfl args w) (altR1_ok on1_yes on1_not)
theorem may1_yes (a : A1) (hs : sml1 a) (h : may1 a) : Gives Try.prog 51 [.t (.ag [.n 6 a.1, .n 6 a.2.1, .c (.bool a.2.2)])] (.v (.bool true)) :=
  fn_gives (P := Try.prog) (env := [eOn1]) ⟨eOn1_ok, trivial⟩ Try.func51 0 (oL [(3, wO 0)]) (by kernel_rfl) (And.intro (show sml1 a ∧ may1 a from ⟨hs, h⟩) trivial)
theorem may1_not (a : A1) (hs : sml1 a) (h : ¬ may1 a) : Gives Try.prog 51 [.t (.ag [.n 6 a.1, .n 6 a.2.1, .c (.bool a.2.2)])] (.v (.bool false)) :=
  fn_gives (P := Try.prog) (env := [eOn1]) ⟨eOn1_ok, trivial⟩ Try.func51 0 (oL [(3, wO 1)]) (by kernel_rfl) (And.intro (show sml1 a ∧ ¬ may1 a from ⟨hs, h⟩) trivial)
def eRig1 : Entry := entry1 51 parA1.x altR1
theorem eRig1_ok : eRig1.OK Try.prog := entry1_ok (fun args w => Go.Proofs.enters_of (P := Try.prog) Try.func51 (by kernel_rfl) rfl args w) (altR1_ok may1_yes may1_not)
theorem in1_inf (x y : Nat) : Gives Try.prog 84 [.t (.ag [.n 6 x, .n 6 y, .c (.bool true)])] (.ag [.m (ofP (1 % 18446744073709551616)), .m (ofP (1 % 18446744073709551616)), .c (.int .u64 0), .c (.int .u64 0), .c (.int .u64 0), .c (.int .u64 0), .c (.int .u64 0), .c (.int .u64 0)]) :=
  fn_gives (P := Try.prog) (env := [eInP, eSmP]) ⟨eInP_ok, eSmP_ok, trivial⟩ Try.func84 0 (oL []) (by kernel_rfl) trivial
theorem in1_fin (x y : Nat) (hx : small x) (hy : small y) : Gives Try.prog 84 [.t (.ag [.n 6 x, .n 6 y, .c (.bool false)])] (.ag [.m (ofP x), .m (ofP y), .m (ofP (1 % 18446744073709551616))]) :=
  fn_gives (P := Try.prog) (env := [eInP, eSmP]) ⟨eInP_ok, eSmP_ok, trivial⟩ Try.func84 0 (oL []) (by kernel_rfl) (And.intro (show smP y from hy) (And.intro (show smP x from hx) trivial))
theorem in1_fin' (x y : Nat) : in1 (x, y, false) = (ofP x, ofP y, 1) := by unfold in1; exact if_neg (by simp)
theorem in1_inf' (x y : Nat) : in1 (x, y, true) = (1, 1, 0) := by unfold in1; exact if_pos rfl
theorem fin1_flat (x y : Fin Pp) : flat [.m x, .m y, .m (ofP (1 % 18446744073709551616))] = flat (pc1 (x, y, 1)) := rfl
theorem inf1_flat : flat [.m (ofP (1 % 18446744073709551616)), .m (ofP (1 % 18446744073709551616)), .c (.int .u64 0), .c (.int .u64 0), .c (.int .u64 0), .c (.int .u64 0), .c (.int .u64 0), .c (.int .u64 0)] = flat (pc1 (1, 1, 0)) := by kernel_rfl
theorem inG1 (a : A1) (hs : sml1 a) : Gives Try.prog 84 [.t (.ag [.n 6 a.1, .n 6 a.2.1, .c (.bool a.2.2)])] (.ag (pc1 (in1 a))) := by
  obtain ⟨x, y, b⟩ := a
  obtain ⟨hx, hy⟩ := hs
  cases b with
  | true => rw [in1_inf' x y]; exact Gives.same (in1_inf x y) (ag_same rfl rfl inf1_flat).symm
  | false => rw [in1_fin' x y]; exact Gives.same (in1_fin x y hx hy) (ag_same rfl rfl (fin1_flat _ _)).symm
def eInG1 : Entry := entry1 84 parA1.x (fun a => [(some (sml1 a), .ag (pc1 (in1 a)))])
theorem eInG1_ok : eInG1.OK Try.prog := entry1_ok (fun args w => Go.Proofs.enters_of (P := Try.prog) Try.func84 (by kernel_rfl) rfl args w) (fun a => onlyIf (fun h => inG1 a h))
def eRc1 : Entry := entry0 63 [(none, .ag [.c (.int .u64 18446744069414584321), .c (.int .u64 6034159408538082302), .c (.int .u64 3691218898639771653), .c (.int .u64 8353516859464449352)])]
theorem eRc1_ok : eRc1.OK Try.prog := entry0_ok (fun args w => Go.Proofs.enters_of (P := Try.prog) Try.func63 (by kernel_rfl) rfl args w)
  (only (fn_gives (P := Try.prog) (env := []) trivial Try.func63 0 o0 (by kernel_rfl) trivial))
theorem grp1_yes (a : A1) (hs : sml1 a) (h : may1 a) (g : grp1 a) : Gives Try.prog 52 [.t (.ag [.n 6 a.1, .n 6 a.2.1, .c (.bool a.2.2)])] (.v (.bool true)) :=
  fn_gives (P := Try.prog) (env := [eRig1, eInG1, eRc1, eMany1, eIsZ1]) ⟨eRig1_ok, eInG1_ok, eRc1_ok, eMany1_ok, eIsZ1_ok, trivial⟩ Try.func52 0 (oL [(3, wO 0), (10, wO 0)]) (by kernel_rfl)
      (And.intro (show (man1 (in1 a) Rr 64).2.2 = 0 from g)
      (And.intro (show Rr < 115792089237316195423570985008687907853269984665640564039457584007913129639936 from by decide)
      (And.intro (show sml1 a from hs)
      (And.intro (show sml1 a ∧ may1 a from ⟨hs, h⟩) trivial))))
theorem grp1_not (a : A1) (hs : sml1 a) (h : may1 a) (g : ¬ grp1 a) : Gives Try.prog 52 [.t (.ag [.n 6 a.1, .n 6 a.2.1, .c (.bool a.2.2)])] (.v (.bool false)) :=
  fn_gives (P := Try.prog) (env := [eRig1, eInG1, eRc1, eMany1, eIsZ1]) ⟨eRig1_ok, eInG1_ok, eRc1_ok, eMany1_ok, eIsZ1_ok, trivial⟩ Try.func52 0 (oL [(3, wO 0), (10, wO 1)]) (by kernel_rfl)
      (And.intro (show ¬ (man1 (in1 a) Rr 64).2.2 = 0 from g)
      (And.intro (show Rr < 115792089237316195423570985008687907853269984665640564039457584007913129639936 from by decide)
      (And.intro (show sml1 a from hs)
      (And.intro (show sml1 a ∧ may1 a from ⟨hs, h⟩) trivial))))
theorem grp1_no (a : A1) (hs : sml1 a) (h : ¬ may1 a) : Gives Try.prog 52 [.t (.ag [.n 6 a.1, .n 6 a.2.1, .c (.bool a.2.2)])] (.v (.bool false)) :=
  fn_gives (P := Try.prog) (env := [eRig1, eInG1, eRc1, eMany1, eIsZ1]) ⟨eRig1_ok, eInG1_ok, eRc1_ok, eMany1_ok, eIsZ1_ok, trivial⟩ Try.func52 0 (oL [(3, wO 1)]) (by kernel_rfl)
      (And.intro (show sml1 a ∧ ¬ may1 a from ⟨hs, h⟩) trivial)
def eGrp1 : Entry := entry1 52 parA1.x (fun a => [(some (sml1 a ∧ may1 a ∧ grp1 a), .v (.bool true)), (some (sml1 a ∧ may1 a ∧ ¬ grp1 a), .v (.bool false)), (some (sml1 a ∧ ¬ may1 a), .v (.bool false))])
theorem eGrp1_ok : eGrp1.OK Try.prog := entry1_ok (fun args w => Go.Proofs.enters_of (P := Try.prog) Try.func52 (by kernel_rfl) rfl args w) (fun a c r hm hc => by
  simp only [List.mem_cons, Prod.mk.injEq, List.not_mem_nil, or_false] at hm
  rcases hm with ⟨rfl, rfl⟩ | ⟨rfl, rfl⟩ | ⟨rfl, rfl⟩
  · exact grp1_yes a hc.1 hc.2.1 hc.2.2
  · exact grp1_not a hc.1 hc.2.1 hc.2.2
  · exact grp1_no a hc.1 hc.2)
end Go.Proofs.Ytmbllhibdbeplaa

/- Contracts: numbers as bytes and back, the layer fp and its reference. -/
set_option linter.unusedSimpArgs false
set_option linter.unusedVariables false
namespace Go.Proofs.Ytmbllhibdbeplaa
open Go.Ev Go.RowKit

theorem nputP (x : Nat) : Gives Try.prog 62 [.rd [.n 6 x] 6 6] (.v (.string (ofL (beL 48 x)))) := by
  have h : beL 48 x = (List.range 48).map (fun k => UInt8.ofNat (IntKind.u8.wrap ((x / 18446744073709551616 ^ (6 - 1 - k / 8) % 18446744073709551616 / 2 ^ min (56 - 8 * (k % 8)) 64 % 18446744073709551616 : Nat) : Int)).toNat) := by
    rw [beL_range]
    refine List.map_congr_left fun k hk => ?_
    rw [List.mem_range] at hk
    rw [byte_put x _ _ (by omega), ← two_pow_256]
    congr 4
    omega
  rw [h]
  exact fn_gives_at (P := Try.prog) (X := rulesX _) (env := []) trivial Try.func62 4 o0 (by kernel_rfl) ⟨_, rfl⟩ trivial
def eNPutP : Entry := entry1 62 (XPar.rd 6 parN6 (fun _ => rfl)) (fun a => [(none, .v (.string (ofL (beL 48 a))))])
theorem eNPutP_ok : eNPutP.OK Try.prog := entry1_ok (fun args w => Go.Proofs.enters_of (P := Try.prog) Try.func62 (by kernel_rfl) rfl args w) (fun a => only (nputP a))
def eFPutP : Entry := entry1 95 par1P (fun a => [(some (smtP a), .v (.string (ofL (beL 48 (eltP a).val))))])
theorem eFPutP_ok : eFPutP.OK Try.prog := entry1_ok (fun args w => Go.Proofs.enters_of (P := Try.prog) Try.func95 (by kernel_rfl) rfl args w) (fun a => match a with
  | .inl a => onlyIf (fun h => fn_gives (P := Try.prog) (env := [eFCleanP, eNPutP]) ⟨eFCleanP_ok, eNPutP_ok, trivial⟩ Try.func95 0 o0 (by kernel_rfl) (And.intro h trivial))
  | .inr a => onlyIf (fun h => fn_gives (P := Try.prog) (env := [eFCleanP, eNPutP]) ⟨eFCleanP_ok, eNPutP_ok, trivial⟩ Try.func95 0 o0 (by kernel_rfl) (And.intro h trivial)))
end Go.Proofs.Ytmbllhibdbeplaa

/- Contract of point.flagged: bytes with flags in the first one. -/
set_option linter.unusedVariables false
namespace Go.Proofs.Ytmbllhibdbeplaa
open Go.Ev Go.RowKit
theorem cell_new1 (w : World) (v : Value) (t : TypeId) : (w.alloc (Obj.cells #[v] t)).drew.cell? ⟨w.heap.size, 0, none⟩ = some v := by
  show (w.alloc (Obj.cells #[v] t)).cell? ⟨w.heap.size, 0, none⟩ = some v
  rw [World.cell?_alloc_new]
  rfl
theorem conv_one (w w1 : World) (b : Nat) (n : Int) (h : w1.cell? ⟨b, 0, none⟩ = some (.int .u8 n)) : (convert 84 9 (.slice (some ⟨b, 0, none⟩) 1 1)).run Try.prog w1 = .ok (.string ⟨#[UInt8.ofNat n.toNat]⟩) w1 := by
  rw [run_convert_bytes_string w1 _ _ 5 _ _ _ Try.underlying84 Try.underlying5 Try.underlying9]
  have h1 := run_loadCells_list (P := Try.prog) w1 ⟨b, 0, none⟩ [.int .u8 n] (fun j v hj => by
    match j, hj with
    | 0, hj => simp at hj; subst hj; simpa [Addr.add] using h)
  rw [run_bytesToString w1 _ 1 1 [n] h1]
  rfl
set_option maxRecDepth 100000 in
theorem flagged_walk (s : ByteArray) (f : Int) (w : World) (hs : 0 < s.size) (h63 : s.size ≤ 1000) : Calls Try.prog 101 #[.string s, .int .u8 f] w fun e w' => e = .returned (.string (⟨#[UInt8.ofNat (bits BinOp.or IntKind.u8 (s[0].toNat : Int) f).toNat]⟩ ++ s.extract 1 s.size)) ∧ Below w.heap.size w w' := by
  have hc := conv_one w (w.alloc (Obj.cells #[Value.int IntKind.u8 (bits BinOp.or IntKind.u8 (↑s[0].toNat) f)] 5)).drew w.heap.size _ (cell_new1 w _ _)
  go_enter Try.func101, Try.ntmps101
  go_wp2
  go_region
  go_wp2
  go_ret
  exact ⟨rfl, ((Below.refl _ _).alloc (Nat.le_refl _) _).drew⟩
theorem flgI_ok (l : List UInt8) (f : Int) (h : 0 < (ofL l).size) : (⟨#[UInt8.ofNat (bits BinOp.or IntKind.u8 ((ofL l)[0].toNat : Int) f).toNat]⟩ : ByteArray) ++ (ofL l).extract 1 (ofL l).size = ofL (flgI l f) := by
  match l, h with
  | b :: r, h =>
    apply ByteArray.ext
    apply Array.toList_inj.1
    rw [ByteArray.data_append, ByteArray.data_extract]
    show (#[UInt8.ofNat (bits BinOp.or IntKind.u8 (b.toNat : Int) f).toNat] ++ (b :: r).toArray.extract 1 (b :: r).toArray.size).toList = (UInt8.ofNat (bits BinOp.or IntKind.u8 (b.toNat : Int) f).toNat :: r)
    simp
def eFlag : Entry := entry2 101 XPar.str (XPar.int .u8) (fun l f => [(some (0 < l.length ∧ l.length ≤ 1000), .v (.string (ofL (flgI l f))))])
theorem eFlag_ok : eFlag.OK Try.prog := entry2_ok (fun args w => Go.Proofs.enters_of (P := Try.prog) Try.func101 (by kernel_rfl) rfl args w) (fun l f c r hm hc => by
  simp only [List.mem_cons, Prod.mk.injEq, List.not_mem_nil, or_false] at hm
  obtain ⟨rfl, rfl⟩ := hm
  refine ⟨_, rfl, fun w vs hx => ?_⟩
  match vs, hx with
  | [p, q], hx =>
    have h1 : p = .string (ofL l) := (Option.some.inj (hx.1 : some (Value.string (ofL l)) = some p)).symm
    subst h1
    have h2 : q = .int .u8 f := (Option.some.inj (hx.2.1 : some (Value.int .u8 f) = some q)).symm
    subst h2
    have h := flagged_walk (ofL l) f w hc.1 hc.2
    rw [flgI_ok l f hc.1] at h
    exact h)
/-! ### The reference -/
end Go.Proofs.Ytmbllhibdbeplaa

/- Contracts: points of curve 1 as bytes; the reference. -/
set_option linter.unusedSimpArgs false
set_option linter.unusedVariables false
namespace Go.Proofs.Ytmbllhibdbeplaa
open Go.Ev Go.RowKit

theorem Put1_00 (x y : Nat) (hx : small x) (hy : small y) (hr : may1 (x, y, false)) (hg : grp1 (x, y, false)) (hh : ¬ hiP (ofP y)) : Gives Try.prog 34 [.t (.ag [.n 6 x, .n 6 y, .c (.bool false)])] (.tp [.v (.string (ofL (flgI (b1 (ofP x)) (flagI false false true)))), .v (.int .i64 0)]) :=
  fn_gives_at (P := Try.prog) (X := rulesX _) (env := [eRig1, eGrp1, eFPutP, eInP, eHighP, eFlag]) ⟨eRig1_ok, eGrp1_ok, eFPutP_ok, eInP_ok, eHighP_ok, eFlag_ok, trivial⟩ Try.func34 2 (oL [(9, wO 0), (13, wO 0), (27, wO 1)]) (by kernel_rfl) ⟨_, rfl⟩
      (And.intro (show 0 < 48 ∧ 48 ≤ 1000 from by decide)
      (And.intro (show ¬ hiP (ofP y) from hh)
      (And.intro (show smP y from hy)
      (And.intro (show smtP (.inr y) from hy)
      (And.intro (show smtP (.inr x) from hx)
      (And.intro (show sml1 (x, y, false) ∧ may1 (x, y, false) ∧ grp1 (x, y, false) from ⟨⟨hx, hy⟩, hr, hg⟩)
      (And.intro (show sml1 (x, y, false) ∧ may1 (x, y, false) from ⟨⟨hx, hy⟩, hr⟩) trivial)))))))
theorem Put1_01 (x y : Nat) (hx : small x) (hy : small y) (hr : may1 (x, y, false)) (hg : grp1 (x, y, false)) (hh : hiP (ofP y)) : Gives Try.prog 34 [.t (.ag [.n 6 x, .n 6 y, .c (.bool false)])] (.tp [.v (.string (ofL (flgI (b1 (ofP x)) (flagI false true true)))), .v (.int .i64 0)]) :=
  fn_gives_at (P := Try.prog) (X := rulesX _) (env := [eRig1, eGrp1, eFPutP, eInP, eHighP, eFlag]) ⟨eRig1_ok, eGrp1_ok, eFPutP_ok, eInP_ok, eHighP_ok, eFlag_ok, trivial⟩ Try.func34 2 (oL [(9, wO 0), (13, wO 0), (27, wO 0)]) (by kernel_rfl) ⟨_, rfl⟩
      (And.intro (show 0 < 48 ∧ 48 ≤ 1000 from by decide)
      (And.intro (show hiP (ofP y) from hh)
      (And.intro (show smP y from hy)
      (And.intro (show smtP (.inr y) from hy)
      (And.intro (show smtP (.inr x) from hx)
      (And.intro (show sml1 (x, y, false) ∧ may1 (x, y, false) ∧ grp1 (x, y, false) from ⟨⟨hx, hy⟩, hr, hg⟩)
      (And.intro (show sml1 (x, y, false) ∧ may1 (x, y, false) from ⟨⟨hx, hy⟩, hr⟩) trivial)))))))
theorem Put1_10 (x y : Nat) (hx : small x) (hy : small y) (hr : may1 (x, y, true)) (hg : grp1 (x, y, true)) (hh : ¬ hiP (ofP y)) : Gives Try.prog 34 [.t (.ag [.n 6 x, .n 6 y, .c (.bool true)])] (.tp [.v (.string (ofL (flgI (b1 (ofP x)) (flagI true false true)))), .v (.int .i64 0)]) :=
  fn_gives_at (P := Try.prog) (X := rulesX _) (env := [eRig1, eGrp1, eFPutP, eInP, eHighP, eFlag]) ⟨eRig1_ok, eGrp1_ok, eFPutP_ok, eInP_ok, eHighP_ok, eFlag_ok, trivial⟩ Try.func34 2 (oL [(9, wO 0), (13, wO 0), (27, wO 1)]) (by kernel_rfl) ⟨_, rfl⟩
      (And.intro (show 0 < 48 ∧ 48 ≤ 1000 from by decide)
      (And.intro (show ¬ hiP (ofP y) from hh)
      (And.intro (show smP y from hy)
      (And.intro (show smtP (.inr y) from hy)
      (And.intro (show smtP (.inr x) from hx)
      (And.intro (show sml1 (x, y, true) ∧ may1 (x, y, true) ∧ grp1 (x, y, true) from ⟨⟨hx, hy⟩, hr, hg⟩)
      (And.intro (show sml1 (x, y, true) ∧ may1 (x, y, true) from ⟨⟨hx, hy⟩, hr⟩) trivial)))))))
theorem Put1_11 (x y : Nat) (hx : small x) (hy : small y) (hr : may1 (x, y, true)) (hg : grp1 (x, y, true)) (hh : hiP (ofP y)) : Gives Try.prog 34 [.t (.ag [.n 6 x, .n 6 y, .c (.bool true)])] (.tp [.v (.string (ofL (flgI (b1 (ofP x)) (flagI true true true)))), .v (.int .i64 0)]) :=
  fn_gives_at (P := Try.prog) (X := rulesX _) (env := [eRig1, eGrp1, eFPutP, eInP, eHighP, eFlag]) ⟨eRig1_ok, eGrp1_ok, eFPutP_ok, eInP_ok, eHighP_ok, eFlag_ok, trivial⟩ Try.func34 2 (oL [(9, wO 0), (13, wO 0), (27, wO 0)]) (by kernel_rfl) ⟨_, rfl⟩
      (And.intro (show 0 < 48 ∧ 48 ≤ 1000 from by decide)
      (And.intro (show hiP (ofP y) from hh)
      (And.intro (show smP y from hy)
      (And.intro (show smtP (.inr y) from hy)
      (And.intro (show smtP (.inr x) from hx)
      (And.intro (show sml1 (x, y, true) ∧ may1 (x, y, true) ∧ grp1 (x, y, true) from ⟨⟨hx, hy⟩, hr, hg⟩)
      (And.intro (show sml1 (x, y, true) ∧ may1 (x, y, true) from ⟨⟨hx, hy⟩, hr⟩) trivial)))))))
theorem Put1_no1 (a : A1) (hs : sml1 a) (h : ¬ may1 a) : Gives Try.prog 34 [.t (.ag [.n 6 a.1, .n 6 a.2.1, .c (.bool a.2.2)])] (.tp [.v (.string (ofL [])), .v (.int .i64 30)]) :=
  fn_gives_at (P := Try.prog) (X := rulesX _) (env := [eRig1, eGrp1, eFPutP, eInP, eHighP, eFlag]) ⟨eRig1_ok, eGrp1_ok, eFPutP_ok, eInP_ok, eHighP_ok, eFlag_ok, trivial⟩ Try.func34 2 (oL [(9, wO 1)]) (by kernel_rfl) ⟨_, rfl⟩ (And.intro (show sml1 a ∧ ¬ may1 a from ⟨hs, h⟩) trivial)
theorem Put1_no2 (a : A1) (hs : sml1 a) (h : may1 a) (g : ¬ grp1 a) : Gives Try.prog 34 [.t (.ag [.n 6 a.1, .n 6 a.2.1, .c (.bool a.2.2)])] (.tp [.v (.string (ofL [])), .v (.int .i64 31)]) :=
  fn_gives_at (P := Try.prog) (X := rulesX _) (env := [eRig1, eGrp1, eFPutP, eInP, eHighP, eFlag]) ⟨eRig1_ok, eGrp1_ok, eFPutP_ok, eInP_ok, eHighP_ok, eFlag_ok, trivial⟩ Try.func34 2 (oL [(9, wO 0), (13, wO 1)]) (by kernel_rfl) ⟨_, rfl⟩ (And.intro (show sml1 a ∧ may1 a ∧ ¬ grp1 a from ⟨hs, h, g⟩) (And.intro (show sml1 a ∧ may1 a from ⟨hs, h⟩) trivial))
theorem Put1_ok (a : A1) (hs : sml1 a) (h : may1 a) (g : grp1 a) : Gives Try.prog 34 [.t (.ag [.n 6 a.1, .n 6 a.2.1, .c (.bool a.2.2)])] (.tp [.v (.string (ofL (putL1 (ofP a.1) (ofP a.2.1) a.2.2 true))), .v (.int .i64 0)]) := by
  obtain ⟨x, y, b⟩ := a
  unfold putL1
  cases b <;> by_cases hh : hiP (ofP y)
  · rw [show decide (hiP (ofP (x, y, false).2.1)) = true from decide_eq_true hh]; exact Put1_01 x y hs.1 hs.2 h g hh
  · rw [show decide (hiP (ofP (x, y, false).2.1)) = false from decide_eq_false hh]; exact Put1_00 x y hs.1 hs.2 h g hh
  · rw [show decide (hiP (ofP (x, y, true).2.1)) = true from decide_eq_true hh]; exact Put1_11 x y hs.1 hs.2 h g hh
  · rw [show decide (hiP (ofP (x, y, true).2.1)) = false from decide_eq_false hh]; exact Put1_10 x y hs.1 hs.2 h g hh
end Go.Proofs.Ytmbllhibdbeplaa

/- Contracts of the points of curve 2: doubles, sums, multiples. -/
set_option linter.unusedSimpArgs false
set_option linter.unusedVariables false
namespace Go.Proofs.Ytmbllhibdbeplaa
open Go.Ev Go.RowKit

def pc2 (p : Pt2) : List Ch := [.m (p).1.1, .m (p).1.2, .m (p).2.1.1, .m (p).2.1.2, .m (p).2.2.1, .m (p).2.2.2]
def parPt2 : Par Pt2 := parM6
theorem zero_m2 : flat (m2 ((0, 0) : F2)) = flat [.c (.int .u64 0), .c (.int .u64 0), .c (.int .u64 0), .c (.int .u64 0), .c (.int .u64 0), .c (.int .u64 0), .c (.int .u64 0), .c (.int .u64 0), .c (.int .u64 0), .c (.int .u64 0), .c (.int .u64 0), .c (.int .u64 0)] := by kernel_rfl
theorem flat_m_list : ∀ l m : List (Fin Pp), l.length = m.length → flat (l.map .m) = flat (m.map .m) → l = m
  | [], [], _, _ => rfl
  | [], _ :: _, h, _ => by simp at h
  | _ :: _, [], h, _ => by simp at h
  | x :: l, y :: m, h, e => by
    have e' : limbs 6 (toM x) ++ flat (l.map .m) = limbs 6 (toM y) ++ flat (m.map .m) := e
    have hl : (limbs 6 (toM x)).length = (limbs 6 (toM y)).length := by simp only [limbs, List.length_cons, List.length_nil]
    have h1 := List.append_inj e' hl
    have h2 : flat [Ch.m x] = flat [Ch.m y] := by simp only [flat, Ch.cells, List.append_nil]; exact h1.1
    rw [flat_m_inj h2, flat_m_list l m (by simpa using h) h1.2]
theorem isZ2_0 (a : F2) (h : a = (0, 0)) : Gives Try.prog 100 [.t (.ag (m2 a))] (.v (.bool true)) := fn_gives (P := Try.prog) (env := []) trivial Try.func100 0 (oN [] [(4, 0)]) (by kernel_rfl) (And.intro (show flat (m2 a) = flat [.c (.int .u64 0), .c (.int .u64 0), .c (.int .u64 0), .c (.int .u64 0), .c (.int .u64 0), .c (.int .u64 0), .c (.int .u64 0), .c (.int .u64 0), .c (.int .u64 0), .c (.int .u64 0), .c (.int .u64 0), .c (.int .u64 0)] from by rw [h]; exact zero_m2) trivial)
theorem isZ2_1 (a : F2) (h : a ≠ (0, 0)) : Gives Try.prog 100 [.t (.ag (m2 a))] (.v (.bool false)) := fn_gives (P := Try.prog) (env := []) trivial Try.func100 0 (oN [] [(4, 1)]) (by kernel_rfl) (And.intro (show ¬ flat (m2 a) = flat [.c (.int .u64 0), .c (.int .u64 0), .c (.int .u64 0), .c (.int .u64 0), .c (.int .u64 0), .c (.int .u64 0), .c (.int .u64 0), .c (.int .u64 0), .c (.int .u64 0), .c (.int .u64 0), .c (.int .u64 0), .c (.int .u64 0)] from fun e => h (by
  have := flat_m_list [a.1, a.2] [0, 0] rfl (e.trans zero_m2.symm)
  simp only [List.cons.injEq] at this
  exact ext2 this.1 this.2.1)) trivial)
def eIsZ2 : Entry := entry1 100 parM2.x (fun a => [(some (a = (0, 0)), .v (.bool true)), (some (a ≠ (0, 0)), .v (.bool false))])
theorem eIsZ2_ok : eIsZ2.OK Try.prog := entry1_ok (fun args w => Go.Proofs.enters_of (P := Try.prog) Try.func100 (by kernel_rfl) rfl args w) (fun a c r hm hc => by
  simp only [List.mem_cons, Prod.mk.injEq, List.not_mem_nil, or_false] at hm
  rcases hm with ⟨rfl, rfl⟩ | ⟨rfl, rfl⟩
  · exact isZ2_0 a hc
  · exact isZ2_1 a hc)
theorem twice2_0 (p : Pt2) (h : p.2.2 = ((0, 0) : F2)) : Gives Try.prog 115 [.t (.ag (pc2 p))] (.ag (pc2 (twc2 p))) := by
  unfold twc2
  rw [if_pos h]
  exact fn_gives (P := Try.prog) (env := [eIsZ2, ePlus2, eMinus2, eTimes2]) ⟨eIsZ2_ok, ePlus2_ok, eMinus2_ok, eTimes2_ok, trivial⟩ Try.func115 0 (oL [(5, wO 0)]) (by kernel_rfl) (And.intro h trivial)
theorem twice2_1 (p : Pt2) (h : p.2.2 ≠ ((0, 0) : F2)) : Gives Try.prog 115 [.t (.ag (pc2 p))] (.ag (pc2 (twc2 p))) := by
  unfold twc2
  rw [if_neg h]
  exact fn_gives (P := Try.prog) (env := [eIsZ2, ePlus2, eMinus2, eTimes2]) ⟨eIsZ2_ok, ePlus2_ok, eMinus2_ok, eTimes2_ok, trivial⟩ Try.func115 0 (oL [(5, wO 1)]) (by kernel_rfl) (And.intro h trivial)
def eTwice2 : Entry := entry1 115 parPt2.x (fun p => [(none, .ag (pc2 (twc2 p)))])
theorem eTwice2_ok : eTwice2.OK Try.prog := entry1_ok (fun args w => Go.Proofs.enters_of (P := Try.prog) Try.func115 (by kernel_rfl) rfl args w) (fun p => only (by
  by_cases h : p.2.2 = ((0, 0) : F2)
  · exact twice2_0 p h
  · exact twice2_1 p h))
theorem plus2 (p q : Pt2) : Gives Try.prog 114 [.t (.ag (pc2 p)), .t (.ag (pc2 q))] (.ag (pc2 (sum2 p q))) := by
  unfold sum2
  by_cases h1 : p.2.2 = ((0, 0) : F2)
  · rw [if_pos h1]
    exact fn_gives (P := Try.prog) (env := [eIsZ2, eTwice2, ePlus2, eMinus2, eTimes2]) ⟨eIsZ2_ok, eTwice2_ok, ePlus2_ok, eMinus2_ok, eTimes2_ok, trivial⟩ Try.func114 0 (oL [(6, wO 0)]) (by kernel_rfl) (And.intro h1 trivial)
  · rw [if_neg h1]
    by_cases h2 : q.2.2 = ((0, 0) : F2)
    · rw [if_pos h2]
      exact fn_gives (P := Try.prog) (env := [eIsZ2, eTwice2, ePlus2, eMinus2, eTimes2]) ⟨eIsZ2_ok, eTwice2_ok, ePlus2_ok, eMinus2_ok, eTimes2_ok, trivial⟩ Try.func114 0 (oL [(6, wO 1), (11, wO 0)]) (by kernel_rfl) (And.intro h2 (And.intro h1 trivial))
    · rw [if_neg h2]
      by_cases h3 : hP2 p q = ((0, 0) : F2)
      · rw [if_pos h3]
        by_cases h4 : rP2 p q = ((0, 0) : F2)
        · rw [if_pos h4]
          exact fn_gives (P := Try.prog) (env := [eIsZ2, eTwice2, ePlus2, eMinus2, eTimes2]) ⟨eIsZ2_ok, eTwice2_ok, ePlus2_ok, eMinus2_ok, eTimes2_ok, trivial⟩ Try.func114 0 (oL [(6, wO 1), (11, wO 1), (79, wO 0), (82, wO 0)]) (by kernel_rfl) (And.intro h4 (And.intro h3 (And.intro h2 (And.intro h1 trivial))))
        · rw [if_neg h4]
          refine Gives.same (r := .ag ([.m p.1.1, .m p.1.2, .m p.2.1.1, .m p.2.1.2, .c (.int .u64 0), .c (.int .u64 0), .c (.int .u64 0), .c (.int .u64 0), .c (.int .u64 0), .c (.int .u64 0), .c (.int .u64 0), .c (.int .u64 0), .c (.int .u64 0), .c (.int .u64 0), .c (.int .u64 0), .c (.int .u64 0)])) (fn_gives (P := Try.prog) (env := [eIsZ2, eTwice2, ePlus2, eMinus2, eTimes2]) ⟨eIsZ2_ok, eTwice2_ok, ePlus2_ok, eMinus2_ok, eTimes2_ok, trivial⟩ Try.func114 0 (oL [(6, wO 1), (11, wO 1), (79, wO 0), (82, wO 1)]) (by kernel_rfl) (And.intro h4 (And.intro h3 (And.intro h2 (And.intro h1 trivial))))) (ag_same rfl rfl ?_)
          show flat ([.m p.1.1, .m p.1.2, .m p.2.1.1, .m p.2.1.2] ++ m2 ((0, 0) : F2)) = flat ([.m p.1.1, .m p.1.2, .m p.2.1.1, .m p.2.1.2] ++ [.c (.int .u64 0), .c (.int .u64 0), .c (.int .u64 0), .c (.int .u64 0), .c (.int .u64 0), .c (.int .u64 0), .c (.int .u64 0), .c (.int .u64 0), .c (.int .u64 0), .c (.int .u64 0), .c (.int .u64 0), .c (.int .u64 0)])
          rw [flat_append, flat_append, zero_m2]
      · rw [if_neg h3]
        exact fn_gives (P := Try.prog) (env := [eIsZ2, eTwice2, ePlus2, eMinus2, eTimes2]) ⟨eIsZ2_ok, eTwice2_ok, ePlus2_ok, eMinus2_ok, eTimes2_ok, trivial⟩ Try.func114 0 (oL [(6, wO 1), (11, wO 1), (79, wO 1)]) (by kernel_rfl) (And.intro h3 (And.intro h2 (And.intro h1 trivial)))
def ePlusC2 : Entry := entry2 114 parPt2.x parPt2.x (fun p q => [(none, .ag (pc2 (sum2 p q)))])
theorem ePlusC2_ok : ePlusC2.OK Try.prog := entry2_ok (fun args w => Go.Proofs.enters_of (P := Try.prog) Try.func114 (by kernel_rfl) rfl args w) (fun p q => only (plus2 p q))

/-! ### Multiples -/
def tabC2 (p : Pt2) : List Ch := [.m p.1.1, .m p.1.2, .m p.2.1.1, .m p.2.1.2, .c (.int .u64 0), .c (.int .u64 0), .c (.int .u64 0), .c (.int .u64 0), .c (.int .u64 0), .c (.int .u64 0), .c (.int .u64 0), .c (.int .u64 0), .c (.int .u64 0), .c (.int .u64 0), .c (.int .u64 0), .c (.int .u64 0), .m (tab2 p 1).1.1, .m (tab2 p 1).1.2, .m (tab2 p 1).2.1.1, .m (tab2 p 1).2.1.2, .m (tab2 p 1).2.2.1, .m (tab2 p 1).2.2.2, .m (tab2 p 2).1.1, .m (tab2 p 2).1.2, .m (tab2 p 2).2.1.1, .m (tab2 p 2).2.1.2, .m (tab2 p 2).2.2.1, .m (tab2 p 2).2.2.2, .m (tab2 p 3).1.1, .m (tab2 p 3).1.2, .m (tab2 p 3).2.1.1, .m (tab2 p 3).2.1.2, .m (tab2 p 3).2.2.1, .m (tab2 p 3).2.2.2, .m (tab2 p 4).1.1, .m (tab2 p 4).1.2, .m (tab2 p 4).2.1.1, .m (tab2 p 4).2.1.2, .m (tab2 p 4).2.2.1, .m (tab2 p 4).2.2.2, .m (tab2 p 5).1.1, .m (tab2 p 5).1.2, .m (tab2 p 5).2.1.1, .m (tab2 p 5).2.1.2, .m (tab2 p 5).2.2.1, .m (tab2 p 5).2.2.2, .m (tab2 p 6).1.1, .m (tab2 p 6).1.2, .m (tab2 p 6).2.1.1, .m (tab2 p 6).2.1.2, .m (tab2 p 6).2.2.1, .m (tab2 p 6).2.2.2, .m (tab2 p 7).1.1, .m (tab2 p 7).1.2, .m (tab2 p 7).2.1.1, .m (tab2 p 7).2.1.2, .m (tab2 p 7).2.2.1, .m (tab2 p 7).2.2.2, .m (tab2 p 8).1.1, .m (tab2 p 8).1.2, .m (tab2 p 8).2.1.1, .m (tab2 p 8).2.1.2, .m (tab2 p 8).2.2.1, .m (tab2 p 8).2.2.2, .m (tab2 p 9).1.1, .m (tab2 p 9).1.2, .m (tab2 p 9).2.1.1, .m (tab2 p 9).2.1.2, .m (tab2 p 9).2.2.1, .m (tab2 p 9).2.2.2, .m (tab2 p 10).1.1, .m (tab2 p 10).1.2, .m (tab2 p 10).2.1.1, .m (tab2 p 10).2.1.2, .m (tab2 p 10).2.2.1, .m (tab2 p 10).2.2.2, .m (tab2 p 11).1.1, .m (tab2 p 11).1.2, .m (tab2 p 11).2.1.1, .m (tab2 p 11).2.1.2, .m (tab2 p 11).2.2.1, .m (tab2 p 11).2.2.2, .m (tab2 p 12).1.1, .m (tab2 p 12).1.2, .m (tab2 p 12).2.1.1, .m (tab2 p 12).2.1.2, .m (tab2 p 12).2.2.1, .m (tab2 p 12).2.2.2, .m (tab2 p 13).1.1, .m (tab2 p 13).1.2, .m (tab2 p 13).2.1.1, .m (tab2 p 13).2.1.2, .m (tab2 p 13).2.2.1, .m (tab2 p 13).2.2.2, .m (tab2 p 14).1.1, .m (tab2 p 14).1.2, .m (tab2 p 14).2.1.1, .m (tab2 p 14).2.1.2, .m (tab2 p 14).2.2.1, .m (tab2 p 14).2.2.2, .m (tab2 p 15).1.1, .m (tab2 p 15).1.2, .m (tab2 p 15).2.1.1, .m (tab2 p 15).2.1.2, .m (tab2 p 15).2.2.1, .m (tab2 p 15).2.2.2]
theorem pc2_size (p : Pt2) : (flat (pc2 p)).length = 36 := by rw [flat_length]; rfl
theorem tabC2_flat (p : Pt2) : flat (tabC2 p) = (List.range 16).flatMap (fun j => flat (pc2 (tab2 p j))) := by
  have e0 : flat (pc2 (tab2 p 0)) = flat [.m p.1.1, .m p.1.2, .m p.2.1.1, .m p.2.1.2, .c (.int .u64 0), .c (.int .u64 0), .c (.int .u64 0), .c (.int .u64 0), .c (.int .u64 0), .c (.int .u64 0), .c (.int .u64 0), .c (.int .u64 0), .c (.int .u64 0), .c (.int .u64 0), .c (.int .u64 0), .c (.int .u64 0)] := by
    show flat ([.m p.1.1, .m p.1.2, .m p.2.1.1, .m p.2.1.2] ++ m2 ((0, 0) : F2)) = flat ([.m p.1.1, .m p.1.2, .m p.2.1.1, .m p.2.1.2] ++ [.c (.int .u64 0), .c (.int .u64 0), .c (.int .u64 0), .c (.int .u64 0), .c (.int .u64 0), .c (.int .u64 0), .c (.int .u64 0), .c (.int .u64 0), .c (.int .u64 0), .c (.int .u64 0), .c (.int .u64 0), .c (.int .u64 0)])
    rw [flat_append, flat_append, zero_m2]
  have e1 : tabC2 p = [.m p.1.1, .m p.1.2, .m p.2.1.1, .m p.2.1.2, .c (.int .u64 0), .c (.int .u64 0), .c (.int .u64 0), .c (.int .u64 0), .c (.int .u64 0), .c (.int .u64 0), .c (.int .u64 0), .c (.int .u64 0), .c (.int .u64 0), .c (.int .u64 0), .c (.int .u64 0), .c (.int .u64 0)] ++ (pc2 (tab2 p 1) ++ (pc2 (tab2 p 2) ++ (pc2 (tab2 p 3) ++ (pc2 (tab2 p 4) ++ (pc2 (tab2 p 5) ++ (pc2 (tab2 p 6) ++ (pc2 (tab2 p 7) ++ (pc2 (tab2 p 8) ++ (pc2 (tab2 p 9) ++ (pc2 (tab2 p 10) ++ (pc2 (tab2 p 11) ++ (pc2 (tab2 p 12) ++ (pc2 (tab2 p 13) ++ (pc2 (tab2 p 14) ++ pc2 (tab2 p 15))))))))))))))) := rfl
  rw [e1]
  simp only [flat_append, ← e0]
  simp [List.range_succ_eq_map, List.flatMap]
theorem tabC2_at (p : Pt2) (j : Nat) (h : j < 16) : ((flat (tabC2 p)).drop (0 + j * 36)).take 36 = flat (pc2 (tab2 p j)) := by
  rw [Nat.zero_add, tabC2_flat]
  exact drop_flatMap (fun j => flat (pc2 (tab2 p j))) 36 (fun j => pc2_size _) 16 j h
def maI2 (r : Array Tmp × Code × Code) (p : Pt2) (k : Nat) (b : Bool) (z : Int) (o : List Ch) : LState := { n := 32, sl := [(0, .yd 235), (1, .p 230 0), (3, .v (.bool b)), (4, .v (.int .i64 z))], hp := [(0, .own (pc2 p) 165), (1, .own [.n 4 k] 32), (2, .own [.c (.int .u64 0), .c (.int .u64 0), .c (.int .u64 0), .c (.int .u64 0), .c (.int .u64 0), .c (.int .u64 0), .c (.int .u64 0), .c (.int .u64 0), .c (.int .u64 0), .c (.int .u64 0), .c (.int .u64 0), .c (.int .u64 0), .c (.int .u64 0), .c (.int .u64 0), .c (.int .u64 0), .c (.int .u64 0), .c (.int .u64 0), .c (.int .u64 0), .c (.int .u64 0), .c (.int .u64 0), .c (.int .u64 0), .c (.int .u64 0), .c (.int .u64 0), .c (.int .u64 0), .c (.int .u64 0), .c (.int .u64 0), .c (.int .u64 0), .c (.int .u64 0), .c (.int .u64 0), .c (.int .u64 0), .c (.int .u64 0), .c (.int .u64 0), .c (.int .u64 0), .c (.int .u64 0), .c (.int .u64 0), .c (.int .u64 0)] 165), (3, .own (tabC2 p) 185), (226, .own o 165), (230, .own [.n 4 k] 32), (234, .dfd),
  (235, .lp .ready none ⟨43, .any, trOf [(5, .p 3 0), (7, .p 226 0)]⟩ r.1 r.2.1 r.2.2 234)] }
def maZ2 (r : Array Tmp × Code × Code) (p : Pt2) (k : Nat) (o : List Ch) : LState := { n := 32, sl := [], hp := [(0, .own (pc2 p) 165), (1, .own [.n 4 k] 32), (2, .own [.c (.int .u64 0), .c (.int .u64 0), .c (.int .u64 0), .c (.int .u64 0), .c (.int .u64 0), .c (.int .u64 0), .c (.int .u64 0), .c (.int .u64 0), .c (.int .u64 0), .c (.int .u64 0), .c (.int .u64 0), .c (.int .u64 0), .c (.int .u64 0), .c (.int .u64 0), .c (.int .u64 0), .c (.int .u64 0), .c (.int .u64 0), .c (.int .u64 0), .c (.int .u64 0), .c (.int .u64 0), .c (.int .u64 0), .c (.int .u64 0), .c (.int .u64 0), .c (.int .u64 0), .c (.int .u64 0), .c (.int .u64 0), .c (.int .u64 0), .c (.int .u64 0), .c (.int .u64 0), .c (.int .u64 0), .c (.int .u64 0), .c (.int .u64 0), .c (.int .u64 0), .c (.int .u64 0), .c (.int .u64 0), .c (.int .u64 0)] 165), (3, .own (tabC2 p) 185), (226, .own o 165), (230, .own [.n 4 k] 32), (234, .dfd),
  (235, .lp .ready none ⟨43, .any, trOf [(5, .p 3 0), (7, .p 226 0)]⟩ r.1 r.2.1 r.2.2 234)] }
theorem ma2_a (p q : Pt2) (k i : Nat) (hi : i < 64)  : Sound Try.prog 236 false (loopB Try.f118 0) (maI2 (rangeB Try.f99 0) p k true ((((i + 1 : Nat) : Int)) - 1) (pc2 q)).aa .normal (maI2 (rangeB Try.f99 0) p k true (((i : Nat) : Int) - 1) (pc2 (sum2 (twc2 (twc2 (twc2 (twc2 q)))) (tab2 p (dig k i))))).aa := by
  have hs := roundK_sound (P := Try.prog) (X := rulesX _) (env := [eTwice2, ePlusC2]) ⟨eTwice2_ok, ePlusC2_ok, trivial⟩ (n := 2) (os := oL [(239, wO 1), (242, rO 2 (i / 16)), (243, rO 3 0), (247, rO 4 (4 * (i % 16))), (249, { ch := 1, hi := fun _ => dig k i }), (291, rO 2 (dig k i)), (292, { ch := 0, hi := fun _ => 0, ru := 8, cs := fun _ => pc2 (tab2 p (dig k i)) })]) (fb := 236) (rd := false) (c := loopB Try.f118 0) (k := 238) (I := maI2 (rangeB Try.f99 0) p k true ((((i + 1 : Nat) : Int)) - 1) (pc2 q)) (sk := [0, 1, 3, 4]) (hk := [0, 1, 2, 3, 226, 230, 234, 235]) (lk := [(235, [5, 7])]) (ex := .normal)
    (L := maI2 (rangeB Try.f99 0) p k true (IntKind.i64.wrap ((((i + 1 : Nat) : Int) - 1) - 1)) (pc2 (sum2 (twc2 (twc2 (twc2 (twc2 q)))) (tab2 p (dig k i))))) (by kernel_rfl) (And.intro (show sizes (pc2 (tab2 p (dig k i))) = 36 ∧ ((flat (tabC2 p)).drop (0 + dig k i * 36)).take 36 = flat (pc2 (tab2 p (dig k i))) from ⟨rfl, tabC2_at p _ (dig_lt k i)⟩) (And.intro (show ((dig k i : Nat) : Int) = ((dig k i : Nat) : Int) ∧ dig k i < 16 from ⟨rfl, dig_lt k i⟩) (And.intro (dq_dig k i) (And.intro (dq_mod i) (And.intro (show 0 + i / 16 * 1 < 4 from by omega) (And.intro (dq_div i hi) (And.intro (show decide (((((i + 1 : Nat) : Int)) - 1) ≥ 0) = true from decide_eq_true (by omega)) trivial)))))))
  rw [show IntKind.i64.wrap ((((i + 1 : Nat) : Int) - 1) - 1) = ((i : Nat) : Int) - 1 by rw [wrap_i64]; omega] at hs
  exact hs
theorem ma2_b (p q : Pt2) (k i : Nat) (hi : i < 64) (hd : ((dig k i : Nat) : Int) > 0) : Sound Try.prog 236 false (loopB Try.f118 0) (maI2 (rangeB Try.f99 0) p k false ((((i + 1 : Nat) : Int)) - 1) (pc2 q)).aa .normal (maI2 (rangeB Try.f99 0) p k true (((i : Nat) : Int) - 1) (pc2 (sum2 (twc2 (twc2 (twc2 (twc2 q)))) (tab2 p (dig k i))))).aa := by
  have hs := roundK_sound (P := Try.prog) (X := rulesX _) (env := [eTwice2, ePlusC2]) ⟨eTwice2_ok, ePlusC2_ok, trivial⟩ (n := 2) (os := oL [(239, wO 1), (242, rO 2 (i / 16)), (243, rO 3 0), (247, rO 4 (4 * (i % 16))), (249, { ch := 1, hi := fun _ => dig k i }), (254, wO 1), (291, rO 2 (dig k i)), (292, { ch := 0, hi := fun _ => 0, ru := 8, cs := fun _ => pc2 (tab2 p (dig k i)) })]) (fb := 236) (rd := false) (c := loopB Try.f118 0) (k := 238) (I := maI2 (rangeB Try.f99 0) p k false ((((i + 1 : Nat) : Int)) - 1) (pc2 q)) (sk := [0, 1, 3, 4]) (hk := [0, 1, 2, 3, 226, 230, 234, 235]) (lk := [(235, [5, 7])]) (ex := .normal)
    (L := maI2 (rangeB Try.f99 0) p k true (IntKind.i64.wrap ((((i + 1 : Nat) : Int) - 1) - 1)) (pc2 (sum2 (twc2 (twc2 (twc2 (twc2 q)))) (tab2 p (dig k i))))) (by kernel_rfl) (And.intro (show sizes (pc2 (tab2 p (dig k i))) = 36 ∧ ((flat (tabC2 p)).drop (0 + dig k i * 36)).take 36 = flat (pc2 (tab2 p (dig k i))) from ⟨rfl, tabC2_at p _ (dig_lt k i)⟩) (And.intro (show ((dig k i : Nat) : Int) = ((dig k i : Nat) : Int) ∧ dig k i < 16 from ⟨rfl, dig_lt k i⟩) (And.intro (show decide (((dig k i : Nat) : Int) > 0) = true from decide_eq_true hd) (And.intro (dq_dig k i) (And.intro (dq_mod i) (And.intro (show 0 + i / 16 * 1 < 4 from by omega) (And.intro (dq_div i hi) (And.intro (show decide (((((i + 1 : Nat) : Int)) - 1) ≥ 0) = true from decide_eq_true (by omega)) trivial))))))))
  rw [show IntKind.i64.wrap ((((i + 1 : Nat) : Int) - 1) - 1) = ((i : Nat) : Int) - 1 by rw [wrap_i64]; omega] at hs
  exact hs
theorem ma2_c (p q : Pt2) (k i : Nat) (hi : i < 64) (hd : ¬ ((dig k i : Nat) : Int) > 0) : Sound Try.prog 236 false (loopB Try.f118 0) (maI2 (rangeB Try.f99 0) p k false ((((i + 1 : Nat) : Int)) - 1) (pc2 q)).aa .normal (maI2 (rangeB Try.f99 0) p k false (((i : Nat) : Int) - 1) (pc2 q)).aa := by
  have hs := roundK_sound (P := Try.prog) (X := rulesX _) (env := [eTwice2, ePlusC2]) ⟨eTwice2_ok, ePlusC2_ok, trivial⟩ (n := 2) (os := oL [(239, wO 1), (242, rO 2 (i / 16)), (243, rO 3 0), (247, rO 4 (4 * (i % 16))), (249, { ch := 1, hi := fun _ => dig k i }), (254, wO 2)]) (fb := 236) (rd := false) (c := loopB Try.f118 0) (k := 238) (I := maI2 (rangeB Try.f99 0) p k false ((((i + 1 : Nat) : Int)) - 1) (pc2 q)) (sk := [0, 1, 3, 4]) (hk := [0, 1, 2, 3, 226, 230, 234, 235]) (lk := [(235, [5, 7])]) (ex := .normal)
    (L := maI2 (rangeB Try.f99 0) p k false (IntKind.i64.wrap ((((i + 1 : Nat) : Int) - 1) - 1)) (pc2 q)) (by kernel_rfl) (And.intro (show decide (((dig k i : Nat) : Int) > 0) = false from decide_eq_false hd) (And.intro (dq_dig k i) (And.intro (dq_mod i) (And.intro (show 0 + i / 16 * 1 < 4 from by omega) (And.intro (dq_div i hi) (And.intro (show decide (((((i + 1 : Nat) : Int)) - 1) ≥ 0) = true from decide_eq_true (by omega)) trivial))))))
  rw [show IntKind.i64.wrap ((((i + 1 : Nat) : Int) - 1) - 1) = ((i : Nat) : Int) - 1 by rw [wrap_i64]; omega] at hs
  exact hs
theorem ma2_end (p q : Pt2) (k : Nat) (b : Bool) : Sound Try.prog 236 false (loopB Try.f118 0) (maI2 (rangeB Try.f99 0) p k b (((0 : Nat) : Int) - 1) (pc2 q)).aa (.exit 0) (maZ2 (rangeB Try.f99 0) p k (pc2 q)).aa :=
  roundK_sound (P := Try.prog) (X := rulesX _) (env := []) trivial (n := 2) (os := oL [(239, wO 2)]) (fb := 236) (rd := false) (c := loopB Try.f118 0) (k := 238) (I := maI2 (rangeB Try.f99 0) p k b (((0 : Nat) : Int) - 1) (pc2 q)) (sk := []) (hk := [0, 1, 2, 3, 226, 230, 234, 235]) (lk := [(235, [5, 7])]) (ex := .exit 0)
    (L := maZ2 (rangeB Try.f99 0) p k (pc2 q)) (by kernel_rfl) (And.intro (show decide ((((0 : Nat) : Int) - 1) ≥ 0) = false from by decide) trivial)
theorem ma2_loop (p : Pt2) (k : Nat) (hk : k < 115792089237316195423570985008687907853269984665640564039457584007913129639936) (y : { i : Nat // i ≤ 64 }) : Sound Try.prog 236 false (.loop (loopB Try.f118 0)) (maI2 (rangeB Try.f99 0) p k (bgn k (64 - y.val)) (((y.val : Nat) : Int) - 1) (pc2 (man2 p k (64 - y.val)))).aa (.exit 0) (maZ2 (rangeB Try.f99 0) p k (pc2 (man2 p k 64))).aa := by
  refine loop_ok (m := fun y : { i : Nat // i ≤ 64 } => y.val) (fun y => maI2 (rangeB Try.f99 0) p k (bgn k (64 - y.val)) (((y.val : Nat) : Int) - 1) (pc2 (man2 p k (64 - y.val)))) (by simp) (fun y => ?_) y
  obtain ⟨i, hi⟩ := y
  cases i with
  | zero => exact .inr (ma2_end p _ k _)
  | succ i =>
    refine .inl ⟨⟨i, by omega⟩, Nat.lt_succ_self i, ?_⟩
    have e1 : 64 - i = (64 - (i + 1)) + 1 := by omega
    have e2 : 63 - (64 - (i + 1)) = i := by omega
    have hb := bgn_step k (64 - (i + 1)) (by omega)
    rw [e2, ← e1] at hb
    have hm : man2 p k (64 - i) = sum2 (twc2 (twc2 (twc2 (twc2 (man2 p k (64 - (i + 1))))))) (tab2 p (dig k i)) := by
      rw [e1]
      show sum2 _ (tab2 p (dig k (63 - (64 - (i + 1))))) = _
      rw [e2]
    simp only
    rw [hm]
    cases hc : bgn k (64 - (i + 1)) with
    | true =>
      rw [hc] at hb
      simp only [Bool.true_or] at hb
      rw [hb]
      exact ma2_a p _ k i (by omega)
    | false =>
      rw [hc] at hb
      simp only [Bool.false_or] at hb
      by_cases hd : ((dig k i : Nat) : Int) > 0
      · rw [hb, decide_eq_true (by omega)]
        exact ma2_b p _ k i (by omega) hd
      · have h0 : dig k i = 0 := by omega
        rw [hb, decide_eq_false (by omega)]
        have hn := man2_none p k (64 - (i + 1)) (bgn_not hk _ (by omega) hc)
        rw [hn, h0, twc2_inf _ rfl, twc2_inf _ rfl, twc2_inf _ rfl, twc2_inf _ rfl, sum2_inf _ _ rfl]
        exact ma2_c p _ k i (by omega) hd
theorem ma2_all (p : Pt2) (k : Nat) (hk : k < 115792089237316195423570985008687907853269984665640564039457584007913129639936) : Sound Try.prog 236 false (.loop (loopB Try.f118 0)) (maI2 (rangeB Try.f99 0) p k false 63 [.m p.1.1, .m p.1.2, .m p.2.1.1, .m p.2.1.2, .c (.int .u64 0), .c (.int .u64 0), .c (.int .u64 0), .c (.int .u64 0), .c (.int .u64 0), .c (.int .u64 0), .c (.int .u64 0), .c (.int .u64 0), .c (.int .u64 0), .c (.int .u64 0), .c (.int .u64 0), .c (.int .u64 0)]).aa (.exit 0) (maZ2 (rangeB Try.f99 0) p k (pc2 (man2 p k 64))).aa := by
  have hl := ma2_loop p k hk ⟨64, Nat.le_refl _⟩
  simp only [Nat.sub_self, bgn_zero hk] at hl
  refine Sound.pre (J := maI2 (rangeB Try.f99 0) p k false (((64 : Nat) : Int) - 1) (pc2 (man2 p k 0))) hl [] (by kernel_rfl) ?_
  have e0 : flat [.m p.1.1, .m p.1.2, .m p.2.1.1, .m p.2.1.2, .c (.int .u64 0), .c (.int .u64 0), .c (.int .u64 0), .c (.int .u64 0), .c (.int .u64 0), .c (.int .u64 0), .c (.int .u64 0), .c (.int .u64 0), .c (.int .u64 0), .c (.int .u64 0), .c (.int .u64 0), .c (.int .u64 0)] = flat (pc2 (man2 p k 0)) := by
    symm
    show flat ([.m p.1.1, .m p.1.2, .m p.2.1.1, .m p.2.1.2] ++ m2 ((0, 0) : F2)) = flat ([.m p.1.1, .m p.1.2, .m p.2.1.1, .m p.2.1.2] ++ [.c (.int .u64 0), .c (.int .u64 0), .c (.int .u64 0), .c (.int .u64 0), .c (.int .u64 0), .c (.int .u64 0), .c (.int .u64 0), .c (.int .u64 0), .c (.int .u64 0), .c (.int .u64 0), .c (.int .u64 0), .c (.int .u64 0)])
    rw [flat_append, flat_append, zero_m2]
  exact ⟨⟨rfl, ⟨rfl, rfl⟩, rfl, rfl, trivial⟩, ⟨⟨rfl, rfl⟩, ⟨rfl, rfl⟩, ⟨rfl, rfl⟩, ⟨rfl, rfl⟩, ⟨rfl, e0⟩, ⟨rfl, rfl⟩, trivial, ⟨⟨rfl, rfl, rfl, rfl, rfl, rfl, rfl⟩, rowFit_self (by kernel_rfl)⟩, trivial⟩⟩
theorem many2 (p : Pt2) (k : Nat) (hk : k < 115792089237316195423570985008687907853269984665640564039457584007913129639936) : Gives Try.prog 99 [.t (.ag (pc2 p)), .t (.ag [.n 4 k])] (.ag (pc2 (man2 p k 64))) :=
  fn_gives_at (P := Try.prog) (X := rulesX _) (env := [eTwice2, ePlusC2]) ⟨eTwice2_ok, ePlusC2_ok, trivial⟩ Try.func99 2 (oL [(238, lpO { I := maI2 (rangeB Try.f99 0) p k false 63 [.m p.1.1, .m p.1.2, .m p.2.1.1, .m p.2.1.2, .c (.int .u64 0), .c (.int .u64 0), .c (.int .u64 0), .c (.int .u64 0), .c (.int .u64 0), .c (.int .u64 0), .c (.int .u64 0), .c (.int .u64 0), .c (.int .u64 0), .c (.int .u64 0), .c (.int .u64 0), .c (.int .u64 0)], ex := .exit 0, E := maZ2 (rangeB Try.f99 0) p k (pc2 (man2 p k 64)), fr := 239, lk := [(235, [5, 7])] })]) (by kernel_rfl) ⟨_, rfl⟩
    (And.intro (show some (maI2 (rangeB Try.f99 0) p k false 63 [.m p.1.1, .m p.1.2, .m p.2.1.1, .m p.2.1.2, .c (.int .u64 0), .c (.int .u64 0), .c (.int .u64 0), .c (.int .u64 0), .c (.int .u64 0), .c (.int .u64 0), .c (.int .u64 0), .c (.int .u64 0), .c (.int .u64 0), .c (.int .u64 0), .c (.int .u64 0), .c (.int .u64 0)]) = some (maI2 (rangeB Try.f99 0) p k false 63 [.m p.1.1, .m p.1.2, .m p.2.1.1, .m p.2.1.2, .c (.int .u64 0), .c (.int .u64 0), .c (.int .u64 0), .c (.int .u64 0), .c (.int .u64 0), .c (.int .u64 0), .c (.int .u64 0), .c (.int .u64 0), .c (.int .u64 0), .c (.int .u64 0), .c (.int .u64 0), .c (.int .u64 0)]) from rfl) (And.intro (ma2_all p k hk) trivial))
def eMany2 : Entry := entry2 99 parPt2.x parN4.x (fun p k => [(some (k < 115792089237316195423570985008687907853269984665640564039457584007913129639936), .ag (pc2 (man2 p k 64)))])
theorem eMany2_ok : eMany2.OK Try.prog := entry2_ok (fun args w => Go.Proofs.enters_of (P := Try.prog) Try.func99 (by kernel_rfl) rfl args w) (fun p k => onlyIf (fun h => many2 p k h))
end Go.Proofs.Ytmbllhibdbeplaa

/- Contracts: what point of curve 2 may be, what is of its group. -/
set_option linter.unusedSimpArgs false
set_option linter.unusedVariables false
namespace Go.Proofs.Ytmbllhibdbeplaa
open Go.Ev Go.RowKit

theorem flat_m2_inj {a b : F2} (e : flat (m2 a) = flat (m2 b)) : a = b := by
  have := flat_m_list [a.1, a.2] [b.1, b.2] rfl e
  simp only [List.cons.injEq, and_true] at this
  exact ext2 this.1 this.2
theorem on2_no1 (x y : N2) (hx : small2 x) (hy : small2 y) (h : ¬ flat [.q (of2 x).1, .q (of2 x).2] = flat [.n 6 x.1, .n 6 x.2]) : Gives Try.prog 97 [.t (.ag [.n 6 x.1, .n 6 x.2, .n 6 y.1, .n 6 y.2, .c (.bool false)])] (.v (.bool false)) :=
  fn_gives (P := Try.prog) (env := [eIn2, eOut2, eTimes2, ePlus2, eSmP]) ⟨eIn2_ok, eOut2_ok, eTimes2_ok, ePlus2_ok, eSmP_ok, trivial⟩ Try.func97 1 (oL [(23, wO 1)]) (by kernel_rfl)
      (And.intro (show ¬ flat [.q (of2 x).1, .q (of2 x).2] = flat [.n 6 x.1, .n 6 x.2] from h)
      (And.intro (show small2 y from hy)
      (And.intro (show small2 x from hx) trivial)))
theorem on2_no2 (x y : N2) (hx : small2 x) (hy : small2 y) (h : flat [.q (of2 x).1, .q (of2 x).2] = flat [.n 6 x.1, .n 6 x.2]) (h2 : ¬ flat [.q (of2 y).1, .q (of2 y).2] = flat [.n 6 y.1, .n 6 y.2]) : Gives Try.prog 97 [.t (.ag [.n 6 x.1, .n 6 x.2, .n 6 y.1, .n 6 y.2, .c (.bool false)])] (.v (.bool false)) :=
  fn_gives (P := Try.prog) (env := [eIn2, eOut2, eTimes2, ePlus2, eSmP]) ⟨eIn2_ok, eOut2_ok, eTimes2_ok, ePlus2_ok, eSmP_ok, trivial⟩ Try.func97 1 (oL [(23, wO 0), (29, wO 1)]) (by kernel_rfl)
      (And.intro (show ¬ flat [.q (of2 y).1, .q (of2 y).2] = flat [.n 6 y.1, .n 6 y.2] from h2)
      (And.intro (show flat [.q (of2 x).1, .q (of2 x).2] = flat [.n 6 x.1, .n 6 x.2] from h)
      (And.intro (show small2 y from hy)
      (And.intro (show small2 x from hx) trivial))))
theorem on2_no3 (x y : N2) (hx : small2 x) (hy : small2 y) (h : flat [.q (of2 x).1, .q (of2 x).2] = flat [.n 6 x.1, .n 6 x.2]) (h2 : flat [.q (of2 y).1, .q (of2 y).2] = flat [.n 6 y.1, .n 6 y.2]) (h3 : ¬ flat (m2 (mul2 (of2 y) (of2 y))) = flat (m2 (add2 (mul2 (mul2 (of2 x) (of2 x)) (of2 x)) (ofP (4 % 18446744073709551616), ofP (4 % 18446744073709551616))))) : Gives Try.prog 97 [.t (.ag [.n 6 x.1, .n 6 x.2, .n 6 y.1, .n 6 y.2, .c (.bool false)])] (.v (.bool false)) :=
  fn_gives (P := Try.prog) (env := [eIn2, eOut2, eTimes2, ePlus2, eSmP]) ⟨eIn2_ok, eOut2_ok, eTimes2_ok, ePlus2_ok, eSmP_ok, trivial⟩ Try.func97 1 (oL [(23, wO 0), (29, wO 0), (42, wO 1)]) (by kernel_rfl)
      (And.intro (show ¬ flat (m2 (mul2 (of2 y) (of2 y))) = flat (m2 (add2 (mul2 (mul2 (of2 x) (of2 x)) (of2 x)) (ofP (4 % 18446744073709551616), ofP (4 % 18446744073709551616)))) from h3)
      (And.intro (show flat [.q (of2 y).1, .q (of2 y).2] = flat [.n 6 y.1, .n 6 y.2] from h2)
      (And.intro (show flat [.q (of2 x).1, .q (of2 x).2] = flat [.n 6 x.1, .n 6 x.2] from h)
      (And.intro (show small2 y from hy)
      (And.intro (show small2 x from hx) trivial)))))
theorem on2_ok (x y : N2) (hx : small2 x) (hy : small2 y) (h : flat [.q (of2 x).1, .q (of2 x).2] = flat [.n 6 x.1, .n 6 x.2]) (h2 : flat [.q (of2 y).1, .q (of2 y).2] = flat [.n 6 y.1, .n 6 y.2]) (h3 : flat (m2 (mul2 (of2 y) (of2 y))) = flat (m2 (add2 (mul2 (mul2 (of2 x) (of2 x)) (of2 x)) (ofP (4 % 18446744073709551616), ofP (4 % 18446744073709551616))))) : Gives Try.prog 97 [.t (.ag [.n 6 x.1, .n 6 x.2, .n 6 y.1, .n 6 y.2, .c (.bool false)])] (.v (.bool true)) :=
  fn_gives (P := Try.prog) (env := [eIn2, eOut2, eTimes2, ePlus2, eSmP]) ⟨eIn2_ok, eOut2_ok, eTimes2_ok, ePlus2_ok, eSmP_ok, trivial⟩ Try.func97 1 (oL [(23, wO 0), (29, wO 0), (42, wO 0)]) (by kernel_rfl)
      (And.intro (show flat (m2 (mul2 (of2 y) (of2 y))) = flat (m2 (add2 (mul2 (mul2 (of2 x) (of2 x)) (of2 x)) (ofP (4 % 18446744073709551616), ofP (4 % 18446744073709551616)))) from h3)
      (And.intro (show flat [.q (of2 y).1, .q (of2 y).2] = flat [.n 6 y.1, .n 6 y.2] from h2)
      (And.intro (show flat [.q (of2 x).1, .q (of2 x).2] = flat [.n 6 x.1, .n 6 x.2] from h)
      (And.intro (show small2 y from hy)
      (And.intro (show small2 x from hx) trivial)))))
theorem on2_inf (x y : N2) (h : flat [.n 6 x.1, .n 6 x.2, .n 6 y.1, .n 6 y.2, .c (.bool true)] = flat [.c (.int .u64 0), .c (.int .u64 0), .c (.int .u64 0), .c (.int .u64 0), .c (.int .u64 0), .c (.int .u64 0), .c (.int .u64 0), .c (.int .u64 0), .c (.int .u64 0), .c (.int .u64 0), .c (.int .u64 0), .c (.int .u64 0), .c (.int .u64 0), .c (.int .u64 0), .c (.int .u64 0), .c (.int .u64 0), .c (.int .u64 0), .c (.int .u64 0), .c (.int .u64 0), .c (.int .u64 0), .c (.int .u64 0), .c (.int .u64 0), .c (.int .u64 0), .c (.int .u64 0), .c (.bool true)]) : Gives Try.prog 97 [.t (.ag [.n 6 x.1, .n 6 x.2, .n 6 y.1, .n 6 y.2, .c (.bool true)])] (.v (.bool true)) :=
  fn_gives (P := Try.prog) (env := [eIn2, eOut2, eTimes2, ePlus2, eSmP]) ⟨eIn2_ok, eOut2_ok, eTimes2_ok, ePlus2_ok, eSmP_ok, trivial⟩ Try.func97 1 (oL [(6, wO 0)]) (by kernel_rfl)
      (And.intro (show flat [.n 6 x.1, .n 6 x.2, .n 6 y.1, .n 6 y.2, .c (.bool true)] = flat [.c (.int .u64 0), .c (.int .u64 0), .c (.int .u64 0), .c (.int .u64 0), .c (.int .u64 0), .c (.int .u64 0), .c (.int .u64 0), .c (.int .u64 0), .c (.int .u64 0), .c (.int .u64 0), .c (.int .u64 0), .c (.int .u64 0), .c (.int .u64 0), .c (.int .u64 0), .c (.int .u64 0), .c (.int .u64 0), .c (.int .u64 0), .c (.int .u64 0), .c (.int .u64 0), .c (.int .u64 0), .c (.int .u64 0), .c (.int .u64 0), .c (.int .u64 0), .c (.int .u64 0), .c (.bool true)] from h) trivial)
theorem on2_noi (x y : N2) (h : ¬ flat [.n 6 x.1, .n 6 x.2, .n 6 y.1, .n 6 y.2, .c (.bool true)] = flat [.c (.int .u64 0), .c (.int .u64 0), .c (.int .u64 0), .c (.int .u64 0), .c (.int .u64 0), .c (.int .u64 0), .c (.int .u64 0), .c (.int .u64 0), .c (.int .u64 0), .c (.int .u64 0), .c (.int .u64 0), .c (.int .u64 0), .c (.int .u64 0), .c (.int .u64 0), .c (.int .u64 0), .c (.int .u64 0), .c (.int .u64 0), .c (.int .u64 0), .c (.int .u64 0), .c (.int .u64 0), .c (.int .u64 0), .c (.int .u64 0), .c (.int .u64 0), .c (.int .u64 0), .c (.bool true)]) : Gives Try.prog 97 [.t (.ag [.n 6 x.1, .n 6 x.2, .n 6 y.1, .n 6 y.2, .c (.bool true)])] (.v (.bool false)) :=
  fn_gives (P := Try.prog) (env := [eIn2, eOut2, eTimes2, ePlus2, eSmP]) ⟨eIn2_ok, eOut2_ok, eTimes2_ok, ePlus2_ok, eSmP_ok, trivial⟩ Try.func97 1 (oL [(6, wO 1)]) (by kernel_rfl)
      (And.intro (show ¬ flat [.n 6 x.1, .n 6 x.2, .n 6 y.1, .n 6 y.2, .c (.bool true)] = flat [.c (.int .u64 0), .c (.int .u64 0), .c (.int .u64 0), .c (.int .u64 0), .c (.int .u64 0), .c (.int .u64 0), .c (.int .u64 0), .c (.int .u64 0), .c (.int .u64 0), .c (.int .u64 0), .c (.int .u64 0), .c (.int .u64 0), .c (.int .u64 0), .c (.int .u64 0), .c (.int .u64 0), .c (.int .u64 0), .c (.int .u64 0), .c (.int .u64 0), .c (.int .u64 0), .c (.int .u64 0), .c (.int .u64 0), .c (.int .u64 0), .c (.int .u64 0), .c (.int .u64 0), .c (.bool true)] from h) trivial)
theorem curve2_iff (x y : N2) : flat (m2 (mul2 (of2 y) (of2 y))) = flat (m2 (add2 (mul2 (mul2 (of2 x) (of2 x)) (of2 x)) (ofP (4 % 18446744073709551616), ofP (4 % 18446744073709551616)))) ↔ mul2 (of2 y) (of2 y) = rhs2 (of2 x) := by
  rw [show (4 % 18446744073709551616 : Nat) = 4 from rfl]
  unfold rhs2
  exact ⟨fun e => flat_m2_inj e, fun e => by rw [e]⟩
theorem on2_yes (a : A2) (hs : sml2 a) (h : may2 a) : Gives Try.prog 97 [.t (.ag [.n 6 a.1.1, .n 6 a.1.2, .n 6 a.2.1.1, .n 6 a.2.1.2, .c (.bool a.2.2)])] (.v (.bool true)) := by
  obtain ⟨x, y, b⟩ := a
  obtain ⟨hx, hy⟩ := hs
  cases b with
  | true => exact on2_inf x y ((flat_inf2 hx hy true).2 (by simpa only [may2, if_true] using h))
  | false =>
    have h : is2 x ∧ is2 y ∧ mul2 (of2 y) (of2 y) = rhs2 (of2 x) := h
    exact on2_ok x y hx hy ((flat_is2 hx).2 h.1) ((flat_is2 hy).2 h.2.1) ((curve2_iff x y).2 h.2.2)
theorem on2_not (a : A2) (hs : sml2 a) (h : ¬ may2 a) : Gives Try.prog 97 [.t (.ag [.n 6 a.1.1, .n 6 a.1.2, .n 6 a.2.1.1, .n 6 a.2.1.2, .c (.bool a.2.2)])] (.v (.bool false)) := by
  obtain ⟨x, y, b⟩ := a
  obtain ⟨hx, hy⟩ := hs
  cases b with
  | true => exact on2_noi x y (fun e => h (by simpa only [may2, if_true] using (flat_inf2 hx hy true).1 e))
  | false =>
    have h : ¬ (is2 x ∧ is2 y ∧ mul2 (of2 y) (of2 y) = rhs2 (of2 x)) := h
    by_cases h1 : is2 x
    · by_cases h2 : is2 y
      · exact on2_no3 x y hx hy ((flat_is2 hx).2 h1) ((flat_is2 hy).2 h2) (fun e => h ⟨h1, h2, (curve2_iff x y).1 e⟩)
      · exact on2_no2 x y hx hy ((flat_is2 hx).2 h1) (fun e => h2 ((flat_is2 hy).1 e))
    · exact on2_no1 x y hx hy (fun e => h1 ((flat_is2 hx).1 e))
def altR2 (a : A2) : Alts := [(some (sml2 a ∧ may2 a), .v (.bool true)), (some (sml2 a ∧ ¬ may2 a), .v (.bool false))]
theorem altR2_ok {f : FuncId} {args : A2 → List XV} (h1 : ∀ a, sml2 a → may2 a → Gives Try.prog f (args a) (.v (.bool true))) (h2 : ∀ a, sml2 a → ¬ may2 a → Gives Try.prog f (args a) (.v (.bool false))) : ∀ a c r, (c, r) ∈ altR2 a → c.getD True → Gives Try.prog f (args a) r := by
  intro a c r hm hc
  simp only [altR2, List.mem_cons, Prod.mk.injEq, List.not_mem_nil, or_false] at hm
  rcases hm with ⟨rfl, rfl⟩ | ⟨rfl, rfl⟩
  · exact h1 a hc.1 hc.2
  · exact h2 a hc.1 hc.2
def eOn2 : Entry := entry1 97 parA2.x altR2
theorem eOn2_ok : eOn2.OK Try.prog := entry1_ok (fun args w => Go.Proofs.enters_of (P := Try.prog) Try.func97 (by kernel_rfl) rfl args w) (altR2_ok on2_yes on2_not)
theorem may2_yes (a : A2) (hs : sml2 a) (h : may2 a) : Gives Try.prog 66 [.t (.ag [.n 6 a.1.1, .n 6 a.1.2, .n 6 a.2.1.1, .n 6 a.2.1.2, .c (.bool a.2.2)])] (.v (.bool true)) :=
  fn_gives (P := Try.prog) (env := [eOn2]) ⟨eOn2_ok, trivial⟩ Try.func66 0 (oL [(3, wO 0)]) (by kernel_rfl) (And.intro (show sml2 a ∧ may2 a from ⟨hs, h⟩) trivial)
theorem may2_not (a : A2) (hs : sml2 a) (h : ¬ may2 a) : Gives Try.prog 66 [.t (.ag [.n 6 a.1.1, .n 6 a.1.2, .n 6 a.2.1.1, .n 6 a.2.1.2, .c (.bool a.2.2)])] (.v (.bool false)) :=
  fn_gives (P := Try.prog) (env := [eOn2]) ⟨eOn2_ok, trivial⟩ Try.func66 0 (oL [(3, wO 1)]) (by kernel_rfl) (And.intro (show sml2 a ∧ ¬ may2 a from ⟨hs, h⟩) trivial)
def eRig2 : Entry := entry1 66 parA2.x altR2
theorem eRig2_ok : eRig2.OK Try.prog := entry1_ok (fun args w => Go.Proofs.enters_of (P := Try.prog) Try.func66 (by kernel_rfl) rfl args w) (altR2_ok may2_yes may2_not)
theorem in2_inf (x y : N2) : Gives Try.prog 98 [.t (.ag [.n 6 x.1, .n 6 x.2, .n 6 y.1, .n 6 y.2, .c (.bool true)])] (.ag [.m (ofP (1 % 18446744073709551616)), .c (.int .u64 0), .c (.int .u64 0), .c (.int .u64 0), .c (.int .u64 0), .c (.int .u64 0), .c (.int .u64 0), .m (ofP (1 % 18446744073709551616)), .c (.int .u64 0), .c (.int .u64 0), .c (.int .u64 0), .c (.int .u64 0), .c (.int .u64 0), .c (.int .u64 0), .c (.int .u64 0), .c (.int .u64 0), .c (.int .u64 0), .c (.int .u64 0), .c (.int .u64 0), .c (.int .u64 0), .c (.int .u64 0), .c (.int .u64 0), .c (.int .u64 0), .c (.int .u64 0), .c (.int .u64 0), .c (.int .u64 0)]) :=
  fn_gives (P := Try.prog) (env := [eIn2, eSmP]) ⟨eIn2_ok, eSmP_ok, trivial⟩ Try.func98 0 (oL []) (by kernel_rfl) trivial
theorem in2_fin (x y : N2) (hx : small2 x) (hy : small2 y) : Gives Try.prog 98 [.t (.ag [.n 6 x.1, .n 6 x.2, .n 6 y.1, .n 6 y.2, .c (.bool false)])] (.ag [.m (of2 x).1, .m (of2 x).2, .m (of2 y).1, .m (of2 y).2, .m (ofP (1 % 18446744073709551616)), .c (.int .u64 0), .c (.int .u64 0), .c (.int .u64 0), .c (.int .u64 0), .c (.int .u64 0), .c (.int .u64 0)]) :=
  fn_gives (P := Try.prog) (env := [eIn2, eSmP]) ⟨eIn2_ok, eSmP_ok, trivial⟩ Try.func98 0 (oL []) (by kernel_rfl) (And.intro (show small2 y from hy) (And.intro (show small2 x from hx) trivial))
theorem in2_fin' (x y : N2) : in2 (x, y, false) = (of2 x, of2 y, (1, 0)) := by unfold in2; exact if_neg (by simp)
theorem in2_inf' (x y : N2) : in2 (x, y, true) = ((1, 0), (1, 0), (0, 0)) := by unfold in2; exact if_pos rfl
theorem one_m2 : flat [.m (ofP (1 % 18446744073709551616)), .c (.int .u64 0), .c (.int .u64 0), .c (.int .u64 0), .c (.int .u64 0), .c (.int .u64 0), .c (.int .u64 0)] = flat [.m (1 : Fin Pp), .m 0] := by kernel_rfl
theorem nul_m2 : flat [.c (.int .u64 0), .c (.int .u64 0), .c (.int .u64 0), .c (.int .u64 0), .c (.int .u64 0), .c (.int .u64 0), .c (.int .u64 0), .c (.int .u64 0), .c (.int .u64 0), .c (.int .u64 0), .c (.int .u64 0), .c (.int .u64 0)] = flat [.m (0 : Fin Pp), .m 0] := by kernel_rfl
theorem fin2_flat (x y : F2) : flat [.m x.1, .m x.2, .m y.1, .m y.2, .m (ofP (1 % 18446744073709551616)), .c (.int .u64 0), .c (.int .u64 0), .c (.int .u64 0), .c (.int .u64 0), .c (.int .u64 0), .c (.int .u64 0)] = flat (pc2 (x, y, (1, 0))) := by
  show flat ([.m x.1, .m x.2, .m y.1, .m y.2] ++ [.m (ofP (1 % 18446744073709551616)), .c (.int .u64 0), .c (.int .u64 0), .c (.int .u64 0), .c (.int .u64 0), .c (.int .u64 0), .c (.int .u64 0)]) = flat ([.m x.1, .m x.2, .m y.1, .m y.2] ++ [.m (1 : Fin Pp), .m 0])
  rw [flat_append, flat_append, one_m2]
theorem inf2_flat : flat [.m (ofP (1 % 18446744073709551616)), .c (.int .u64 0), .c (.int .u64 0), .c (.int .u64 0), .c (.int .u64 0), .c (.int .u64 0), .c (.int .u64 0), .m (ofP (1 % 18446744073709551616)), .c (.int .u64 0), .c (.int .u64 0), .c (.int .u64 0), .c (.int .u64 0), .c (.int .u64 0), .c (.int .u64 0), .c (.int .u64 0), .c (.int .u64 0), .c (.int .u64 0), .c (.int .u64 0), .c (.int .u64 0), .c (.int .u64 0), .c (.int .u64 0), .c (.int .u64 0), .c (.int .u64 0), .c (.int .u64 0), .c (.int .u64 0), .c (.int .u64 0)] = flat (pc2 ((1, 0), (1, 0), (0, 0))) := by
  show flat ([.m (ofP (1 % 18446744073709551616)), .c (.int .u64 0), .c (.int .u64 0), .c (.int .u64 0), .c (.int .u64 0), .c (.int .u64 0), .c (.int .u64 0)] ++ ([.m (ofP (1 % 18446744073709551616)), .c (.int .u64 0), .c (.int .u64 0), .c (.int .u64 0), .c (.int .u64 0), .c (.int .u64 0), .c (.int .u64 0)] ++ [.c (.int .u64 0), .c (.int .u64 0), .c (.int .u64 0), .c (.int .u64 0), .c (.int .u64 0), .c (.int .u64 0), .c (.int .u64 0), .c (.int .u64 0), .c (.int .u64 0), .c (.int .u64 0), .c (.int .u64 0), .c (.int .u64 0)])) = flat ([.m (1 : Fin Pp), .m 0] ++ ([.m (1 : Fin Pp), .m 0] ++ [.m (0 : Fin Pp), .m 0]))
  simp only [flat_append]
  rw [one_m2, nul_m2]
theorem inG2 (a : A2) (hs : sml2 a) : Gives Try.prog 98 [.t (.ag [.n 6 a.1.1, .n 6 a.1.2, .n 6 a.2.1.1, .n 6 a.2.1.2, .c (.bool a.2.2)])] (.ag (pc2 (in2 a))) := by
  obtain ⟨x, y, b⟩ := a
  obtain ⟨hx, hy⟩ := hs
  cases b with
  | true => rw [in2_inf' x y]; exact Gives.same (in2_inf x y) (ag_same rfl rfl inf2_flat).symm
  | false => rw [in2_fin' x y]; exact Gives.same (in2_fin x y hx hy) (ag_same rfl rfl (fin2_flat _ _)).symm
def eInG2 : Entry := entry1 98 parA2.x (fun a => [(some (sml2 a), .ag (pc2 (in2 a)))])
theorem eInG2_ok : eInG2.OK Try.prog := entry1_ok (fun args w => Go.Proofs.enters_of (P := Try.prog) Try.func98 (by kernel_rfl) rfl args w) (fun a => onlyIf (fun h => inG2 a h))
def eRc2 : Entry := entry0 63 [(none, .ag [.c (.int .u64 18446744069414584321), .c (.int .u64 6034159408538082302), .c (.int .u64 3691218898639771653), .c (.int .u64 8353516859464449352)])]
theorem eRc2_ok : eRc2.OK Try.prog := entry0_ok (fun args w => Go.Proofs.enters_of (P := Try.prog) Try.func63 (by kernel_rfl) rfl args w)
  (only (fn_gives (P := Try.prog) (env := []) trivial Try.func63 0 o0 (by kernel_rfl) trivial))
theorem grp2_yes (a : A2) (hs : sml2 a) (h : may2 a) (g : grp2 a) : Gives Try.prog 67 [.t (.ag [.n 6 a.1.1, .n 6 a.1.2, .n 6 a.2.1.1, .n 6 a.2.1.2, .c (.bool a.2.2)])] (.v (.bool true)) :=
  fn_gives (P := Try.prog) (env := [eRig2, eInG2, eRc2, eMany2, eIsZ2]) ⟨eRig2_ok, eInG2_ok, eRc2_ok, eMany2_ok, eIsZ2_ok, trivial⟩ Try.func67 0 (oL [(3, wO 0), (10, wO 0)]) (by kernel_rfl)
      (And.intro (show (man2 (in2 a) Rr 64).2.2 = (0, 0) from g)
      (And.intro (show Rr < 115792089237316195423570985008687907853269984665640564039457584007913129639936 from by decide)
      (And.intro (show sml2 a from hs)
      (And.intro (show sml2 a ∧ may2 a from ⟨hs, h⟩) trivial))))
theorem grp2_not (a : A2) (hs : sml2 a) (h : may2 a) (g : ¬ grp2 a) : Gives Try.prog 67 [.t (.ag [.n 6 a.1.1, .n 6 a.1.2, .n 6 a.2.1.1, .n 6 a.2.1.2, .c (.bool a.2.2)])] (.v (.bool false)) :=
  fn_gives (P := Try.prog) (env := [eRig2, eInG2, eRc2, eMany2, eIsZ2]) ⟨eRig2_ok, eInG2_ok, eRc2_ok, eMany2_ok, eIsZ2_ok, trivial⟩ Try.func67 0 (oL [(3, wO 0), (10, wO 1)]) (by kernel_rfl)
      (And.intro (show ¬ (man2 (in2 a) Rr 64).2.2 = (0, 0) from g)
      (And.intro (show Rr < 115792089237316195423570985008687907853269984665640564039457584007913129639936 from by decide)
      (And.intro (show sml2 a from hs)
      (And.intro (show sml2 a ∧ may2 a from ⟨hs, h⟩) trivial))))
theorem grp2_no (a : A2) (hs : sml2 a) (h : ¬ may2 a) : Gives Try.prog 67 [.t (.ag [.n 6 a.1.1, .n 6 a.1.2, .n 6 a.2.1.1, .n 6 a.2.1.2, .c (.bool a.2.2)])] (.v (.bool false)) :=
  fn_gives (P := Try.prog) (env := [eRig2, eInG2, eRc2, eMany2, eIsZ2]) ⟨eRig2_ok, eInG2_ok, eRc2_ok, eMany2_ok, eIsZ2_ok, trivial⟩ Try.func67 0 (oL [(3, wO 1)]) (by kernel_rfl)
      (And.intro (show sml2 a ∧ ¬ may2 a from ⟨hs, h⟩) trivial)
def eGrp2 : Entry := entry1 67 parA2.x (fun a => [(some (sml2 a ∧ may2 a ∧ grp2 a), .v (.bool true)), (some (sml2 a ∧ may2 a ∧ ¬ grp2 a), .v (.bool false)), (some (sml2 a ∧ ¬ may2 a), .v (.bool false))])
theorem eGrp2_ok : eGrp2.OK Try.prog := entry1_ok (fun args w => Go.Proofs.enters_of (P := Try.prog) Try.func67 (by kernel_rfl) rfl args w) (fun a c r hm hc => by
  simp only [List.mem_cons, Prod.mk.injEq, List.not_mem_nil, or_false] at hm
  rcases hm with ⟨rfl, rfl⟩ | ⟨rfl, rfl⟩ | ⟨rfl, rfl⟩
  · exact grp2_yes a hc.1 hc.2.1 hc.2.2
  · exact grp2_not a hc.1 hc.2.1 hc.2.2
  · exact grp2_no a hc.1 hc.2)
end Go.Proofs.Ytmbllhibdbeplaa

/- Contracts: points of curve 2 as bytes; the reference. -/
set_option linter.unusedSimpArgs false
set_option linter.unusedVariables false
namespace Go.Proofs.Ytmbllhibdbeplaa
open Go.Ev Go.RowKit

theorem pair2_run (a : N2) (h : small2 a) : Gives Try.prog 69 [.t (.ag [.n 6 a.1, .n 6 a.2])] (.v (.string (ofL (b2 (of2 a))))) :=
  fn_gives_at (P := Try.prog) (X := rulesX _) (env := [eFPutP]) ⟨eFPutP_ok, trivial⟩ Try.func69 0 (oL [(8, { ch := 0, hi := fun _ => 0, ru := 6 })]) (by kernel_rfl) ⟨_, rfl⟩
    (And.intro (show 48 + 48 ≤ 9223372036854775807 by decide) (And.intro (show smtP (.inr a.1) from h.1) (And.intro (show smtP (.inr a.2) from h.2) trivial)))
def ePair2 : Entry := entry1 69 parN2.x (fun a => [(some (small2 a), .v (.string (ofL (b2 (of2 a)))))])
theorem ePair2_ok : ePair2.OK Try.prog := entry1_ok (fun args w => Go.Proofs.enters_of (P := Try.prog) Try.func69 (by kernel_rfl) rfl args w) (fun a => onlyIf (fun h => pair2_run a h))
theorem Put2_00 (x y : N2) (hx : small2 x) (hy : small2 y) (hr : may2 (x, y, false)) (hg : grp2 (x, y, false)) (hh : ¬ hi2 (of2 y)) : Gives Try.prog 17 [.t (.ag [.n 6 x.1, .n 6 x.2, .n 6 y.1, .n 6 y.2, .c (.bool false)])] (.tp [.v (.string (ofL (flgI (b2 (of2 x)) (flagI false false true)))), .v (.int .i64 0)]) :=
  fn_gives_at (P := Try.prog) (X := rulesX _) (env := [eRig2, eGrp2, ePair2, eIn2, eHigh2, eFlag]) ⟨eRig2_ok, eGrp2_ok, ePair2_ok, eIn2_ok, eHigh2_ok, eFlag_ok, trivial⟩ Try.func17 2 (oL [(9, wO 0), (13, wO 0), (27, wO 1)]) (by kernel_rfl) ⟨_, rfl⟩
      (And.intro (show 0 < 96 ∧ 96 ≤ 1000 from by decide)
      (And.intro (show ¬ hi2 (of2 y) from hh)
      (And.intro (show small2 y from hy)
      (And.intro (show small2 y from hy)
      (And.intro (show small2 x from hx)
      (And.intro (show sml2 (x, y, false) ∧ may2 (x, y, false) ∧ grp2 (x, y, false) from ⟨⟨hx, hy⟩, hr, hg⟩)
      (And.intro (show sml2 (x, y, false) ∧ may2 (x, y, false) from ⟨⟨hx, hy⟩, hr⟩) trivial)))))))
theorem Put2_01 (x y : N2) (hx : small2 x) (hy : small2 y) (hr : may2 (x, y, false)) (hg : grp2 (x, y, false)) (hh : hi2 (of2 y)) : Gives Try.prog 17 [.t (.ag [.n 6 x.1, .n 6 x.2, .n 6 y.1, .n 6 y.2, .c (.bool false)])] (.tp [.v (.string (ofL (flgI (b2 (of2 x)) (flagI false true true)))), .v (.int .i64 0)]) :=
  fn_gives_at (P := Try.prog) (X := rulesX _) (env := [eRig2, eGrp2, ePair2, eIn2, eHigh2, eFlag]) ⟨eRig2_ok, eGrp2_ok, ePair2_ok, eIn2_ok, eHigh2_ok, eFlag_ok, trivial⟩ Try.func17 2 (oL [(9, wO 0), (13, wO 0), (27, wO 0)]) (by kernel_rfl) ⟨_, rfl⟩
      (And.intro (show 0 < 96 ∧ 96 ≤ 1000 from by decide)
      (And.intro (show hi2 (of2 y) from hh)
      (And.intro (show small2 y from hy)
      (And.intro (show small2 y from hy)
      (And.intro (show small2 x from hx)
      (And.intro (show sml2 (x, y, false) ∧ may2 (x, y, false) ∧ grp2 (x, y, false) from ⟨⟨hx, hy⟩, hr, hg⟩)
      (And.intro (show sml2 (x, y, false) ∧ may2 (x, y, false) from ⟨⟨hx, hy⟩, hr⟩) trivial)))))))
theorem Put2_10 (x y : N2) (hx : small2 x) (hy : small2 y) (hr : may2 (x, y, true)) (hg : grp2 (x, y, true)) (hh : ¬ hi2 (of2 y)) : Gives Try.prog 17 [.t (.ag [.n 6 x.1, .n 6 x.2, .n 6 y.1, .n 6 y.2, .c (.bool true)])] (.tp [.v (.string (ofL (flgI (b2 (of2 x)) (flagI true false true)))), .v (.int .i64 0)]) :=
  fn_gives_at (P := Try.prog) (X := rulesX _) (env := [eRig2, eGrp2, ePair2, eIn2, eHigh2, eFlag]) ⟨eRig2_ok, eGrp2_ok, ePair2_ok, eIn2_ok, eHigh2_ok, eFlag_ok, trivial⟩ Try.func17 2 (oL [(9, wO 0), (13, wO 0), (27, wO 1)]) (by kernel_rfl) ⟨_, rfl⟩
      (And.intro (show 0 < 96 ∧ 96 ≤ 1000 from by decide)
      (And.intro (show ¬ hi2 (of2 y) from hh)
      (And.intro (show small2 y from hy)
      (And.intro (show small2 y from hy)
      (And.intro (show small2 x from hx)
      (And.intro (show sml2 (x, y, true) ∧ may2 (x, y, true) ∧ grp2 (x, y, true) from ⟨⟨hx, hy⟩, hr, hg⟩)
      (And.intro (show sml2 (x, y, true) ∧ may2 (x, y, true) from ⟨⟨hx, hy⟩, hr⟩) trivial)))))))
theorem Put2_11 (x y : N2) (hx : small2 x) (hy : small2 y) (hr : may2 (x, y, true)) (hg : grp2 (x, y, true)) (hh : hi2 (of2 y)) : Gives Try.prog 17 [.t (.ag [.n 6 x.1, .n 6 x.2, .n 6 y.1, .n 6 y.2, .c (.bool true)])] (.tp [.v (.string (ofL (flgI (b2 (of2 x)) (flagI true true true)))), .v (.int .i64 0)]) :=
  fn_gives_at (P := Try.prog) (X := rulesX _) (env := [eRig2, eGrp2, ePair2, eIn2, eHigh2, eFlag]) ⟨eRig2_ok, eGrp2_ok, ePair2_ok, eIn2_ok, eHigh2_ok, eFlag_ok, trivial⟩ Try.func17 2 (oL [(9, wO 0), (13, wO 0), (27, wO 0)]) (by kernel_rfl) ⟨_, rfl⟩
      (And.intro (show 0 < 96 ∧ 96 ≤ 1000 from by decide)
      (And.intro (show hi2 (of2 y) from hh)
      (And.intro (show small2 y from hy)
      (And.intro (show small2 y from hy)
      (And.intro (show small2 x from hx)
      (And.intro (show sml2 (x, y, true) ∧ may2 (x, y, true) ∧ grp2 (x, y, true) from ⟨⟨hx, hy⟩, hr, hg⟩)
      (And.intro (show sml2 (x, y, true) ∧ may2 (x, y, true) from ⟨⟨hx, hy⟩, hr⟩) trivial)))))))
theorem Put2_no1 (a : A2) (hs : sml2 a) (h : ¬ may2 a) : Gives Try.prog 17 [.t (.ag [.n 6 a.1.1, .n 6 a.1.2, .n 6 a.2.1.1, .n 6 a.2.1.2, .c (.bool a.2.2)])] (.tp [.v (.string (ofL [])), .v (.int .i64 30)]) :=
  fn_gives_at (P := Try.prog) (X := rulesX _) (env := [eRig2, eGrp2, ePair2, eIn2, eHigh2, eFlag]) ⟨eRig2_ok, eGrp2_ok, ePair2_ok, eIn2_ok, eHigh2_ok, eFlag_ok, trivial⟩ Try.func17 2 (oL [(9, wO 1)]) (by kernel_rfl) ⟨_, rfl⟩ (And.intro (show sml2 a ∧ ¬ may2 a from ⟨hs, h⟩) trivial)
theorem Put2_no2 (a : A2) (hs : sml2 a) (h : may2 a) (g : ¬ grp2 a) : Gives Try.prog 17 [.t (.ag [.n 6 a.1.1, .n 6 a.1.2, .n 6 a.2.1.1, .n 6 a.2.1.2, .c (.bool a.2.2)])] (.tp [.v (.string (ofL [])), .v (.int .i64 31)]) :=
  fn_gives_at (P := Try.prog) (X := rulesX _) (env := [eRig2, eGrp2, ePair2, eIn2, eHigh2, eFlag]) ⟨eRig2_ok, eGrp2_ok, ePair2_ok, eIn2_ok, eHigh2_ok, eFlag_ok, trivial⟩ Try.func17 2 (oL [(9, wO 0), (13, wO 1)]) (by kernel_rfl) ⟨_, rfl⟩ (And.intro (show sml2 a ∧ may2 a ∧ ¬ grp2 a from ⟨hs, h, g⟩) (And.intro (show sml2 a ∧ may2 a from ⟨hs, h⟩) trivial))
theorem Put2_ok (a : A2) (hs : sml2 a) (h : may2 a) (g : grp2 a) : Gives Try.prog 17 [.t (.ag [.n 6 a.1.1, .n 6 a.1.2, .n 6 a.2.1.1, .n 6 a.2.1.2, .c (.bool a.2.2)])] (.tp [.v (.string (ofL (putL2 (of2 a.1) (of2 a.2.1) a.2.2 true))), .v (.int .i64 0)]) := by
  obtain ⟨x, y, b⟩ := a
  unfold putL2
  cases b <;> by_cases hh : hi2 (of2 y)
  · rw [show decide (hi2 (of2 (x, y, false).2.1)) = true from decide_eq_true hh]; exact Put2_01 x y hs.1 hs.2 h g hh
  · rw [show decide (hi2 (of2 (x, y, false).2.1)) = false from decide_eq_false hh]; exact Put2_00 x y hs.1 hs.2 h g hh
  · rw [show decide (hi2 (of2 (x, y, true).2.1)) = true from decide_eq_true hh]; exact Put2_11 x y hs.1 hs.2 h g hh
  · rw [show decide (hi2 (of2 (x, y, true).2.1)) = false from decide_eq_false hh]; exact Put2_10 x y hs.1 hs.2 h g hh
end Go.Proofs.Ytmbllhibdbeplaa
