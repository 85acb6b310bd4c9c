/- Pruned: ZhPwS. -/
import Derived.Test.YtoigbjimhcgolaaQZhBiS
import Derived.Test.YtoigbjimhcgolaaQHa
import Derived.Test.YtoigbjimhcgolaaQHb
set_option linter.unusedSimpArgs false
set_option linter.unusedVariables false
namespace Go.Proofs.Ytoigbjimhcgolaa
open Go.Ev Go.RowKit

def pwIS (r : Array Tmp × Code × Code) (a : Fin Rr) (e i : Nat) : LState := { n := 24, sl := [(0, .yd 16), (1, .p 11 0), (3, .v (.int .i64 (((i : Nat) : Int) - 1)))], hp := [(2, .ro [.n 4 e]), (3, .own [.s a] 73), (4, .own [.s 1] 73), (5, .own [.c (.int .u64 0), .c (.int .u64 0), .c (.int .u64 0), .c (.int .u64 0)] 73), (7, .own [.s (pwS a (e / 2 ^ i))] 73), (11, .own [.sl 2 0 4 4] 92), (15, .dfd),
  (16, .lp .ready none ⟨23, .any, trOf [(3, .p 3 0), (7, .p 7 0)]⟩ r.1 r.2.1 r.2.2 15)] }
def pwJS (r : Array Tmp × Code × Code) (a : Fin Rr) (e : Nat) (z : Int) (v : Fin Rr) : LState := { n := 24, sl := [(0, .yd 16), (1, .p 11 0), (3, .v (.int .i64 (z)))], hp := [(2, .ro [.n 4 e]), (3, .own [.s a] 73), (4, .own [.s 1] 73), (5, .own [.c (.int .u64 0), .c (.int .u64 0), .c (.int .u64 0), .c (.int .u64 0)] 73), (7, .own [.s (v)] 73), (11, .own [.sl 2 0 4 4] 92), (15, .dfd),
  (16, .lp .ready none ⟨23, .any, trOf [(3, .p 3 0), (7, .p 7 0)]⟩ r.1 r.2.1 r.2.2 15)] }
def pwZS (r : Array Tmp × Code × Code) (a : Fin Rr) (e : Nat) (v : Fin Rr) : LState := { n := 24, sl := [], hp := [(2, .ro [.n 4 e]), (3, .own [.s a] 73), (4, .own [.s 1] 73), (5, .own [.c (.int .u64 0), .c (.int .u64 0), .c (.int .u64 0), .c (.int .u64 0)] 73), (7, .own [.s (v)] 73), (11, .own [.sl 2 0 4 4] 92), (15, .dfd),
  (16, .lp .ready none ⟨23, .any, trOf [(3, .p 3 0), (7, .p 7 0)]⟩ r.1 r.2.1 r.2.2 15)] }
theorem pwS_1 (a : Fin Rr) (e i : Nat) (hi : i < 256) (hb : e / 2 ^ i % 2 = 1) : Sound Try.prog 17 false (loopB Try.f87 0) (pwIS (rangeB Try.f85 0) a e (i + 1)).aa .normal (pwIS (rangeB Try.f85 0) a e i).aa := by
  have hs := roundK_sound (P := Try.prog) (X := rulesQ _) (env := [eTimesS]) ⟨eTimesS_ok, trivial⟩ (n := 2) (os := oL [(31, wO 1), (36, rO 2 (i / 64)), (37, rO 3 0), (40, rO 4 (i % 64)), (42, wO 1)]) (fb := 17) (rd := false) (c := loopB Try.f87 0) (k := 30) (I := pwIS (rangeB Try.f85 0) a e (i + 1)) (sk := [0, 1, 3]) (hk := [2, 3, 4, 5, 7, 11, 15, 16]) (lk := [(16, [3, 7])]) (ex := .normal)
    (L := pwJS (rangeB Try.f85 0) a e (IntKind.i64.wrap ((((i + 1 : Nat) : Int) - 1) - 1)) (pwS a (e / 2 ^ (i + 1)) * pwS a (e / 2 ^ (i + 1)) * a)) (by kernel_rfl) (And.intro (show decide ((e / 18446744073709551616 ^ (0 + i / 64 * 1) % 18446744073709551616 / 2 ^ (i % 64) % 18446744073709551616 &&& 1) % 18446744073709551616 = 1) = true from by rw [bit_test, hb]; rfl) (And.intro (show (((i + 1 : Nat) : Int) - 1).tmod 64 = ((i % 64 : Nat) : Int) ∧ i % 64 < 64 from ⟨by rw [show (((i + 1 : Nat) : Int) - 1) = ((i : Nat) : Int) by omega]; exact tmod64 i, Nat.mod_lt _ (by decide)⟩) (And.intro (show 0 + i / 64 * 1 < 4 from by omega) (And.intro (show IntKind.i64.wrap ((((i + 1 : Nat) : Int) - 1).tdiv 64) = ((i / 64 : Nat) : Int) ∧ i / 64 < 4 from ⟨by rw [show (((i + 1 : Nat) : Int) - 1) = ((i : Nat) : Int) by omega]; exact tdiv64 i (by omega), by omega⟩) (And.intro (show decide (((((i + 1 : Nat) : Int)) - 1) ≥ 0) = true from decide_eq_true (by omega)) trivial)))))
  have e1 : IntKind.i64.wrap ((((i + 1 : Nat) : Int) - 1) - 1) = ((i : Nat) : Int) - 1 := by rw [wrap_i64]; omega
  have e2 : pwS a (e / 2 ^ (i + 1)) * pwS a (e / 2 ^ (i + 1)) * a = pwS a (e / 2 ^ i) := by
    rw [half_step e i, hb]
    exact (congrArg (· * a) (GS.pw_dbl a (e / 2 ^ (i + 1))).symm)
  rw [e1, e2] at hs
  exact hs
theorem pwS_0 (a : Fin Rr) (e i : Nat) (hi : i < 256) (hb : e / 2 ^ i % 2 = 0) : Sound Try.prog 17 false (loopB Try.f87 0) (pwIS (rangeB Try.f85 0) a e (i + 1)).aa .normal (pwIS (rangeB Try.f85 0) a e i).aa := by
  have hs := roundK_sound (P := Try.prog) (X := rulesQ _) (env := [eTimesS]) ⟨eTimesS_ok, trivial⟩ (n := 2) (os := oL [(31, wO 1), (36, rO 2 (i / 64)), (37, rO 3 0), (40, rO 4 (i % 64)), (42, wO 2)]) (fb := 17) (rd := false) (c := loopB Try.f87 0) (k := 30) (I := pwIS (rangeB Try.f85 0) a e (i + 1)) (sk := [0, 1, 3]) (hk := [2, 3, 4, 5, 7, 11, 15, 16]) (lk := [(16, [3, 7])]) (ex := .normal)
    (L := pwJS (rangeB Try.f85 0) a e (IntKind.i64.wrap ((((i + 1 : Nat) : Int) - 1) - 1)) (pwS a (e / 2 ^ (i + 1)) * pwS a (e / 2 ^ (i + 1)))) (by kernel_rfl) (And.intro (show decide ((e / 18446744073709551616 ^ (0 + i / 64 * 1) % 18446744073709551616 / 2 ^ (i % 64) % 18446744073709551616 &&& 1) % 18446744073709551616 = 1) = false from by rw [bit_test, hb]; rfl) (And.intro (show (((i + 1 : Nat) : Int) - 1).tmod 64 = ((i % 64 : Nat) : Int) ∧ i % 64 < 64 from ⟨by rw [show (((i + 1 : Nat) : Int) - 1) = ((i : Nat) : Int) by omega]; exact tmod64 i, Nat.mod_lt _ (by decide)⟩) (And.intro (show 0 + i / 64 * 1 < 4 from by omega) (And.intro (show IntKind.i64.wrap ((((i + 1 : Nat) : Int) - 1).tdiv 64) = ((i / 64 : Nat) : Int) ∧ i / 64 < 4 from ⟨by rw [show (((i + 1 : Nat) : Int) - 1) = ((i : Nat) : Int) by omega]; exact tdiv64 i (by omega), by omega⟩) (And.intro (show decide (((((i + 1 : Nat) : Int)) - 1) ≥ 0) = true from decide_eq_true (by omega)) trivial)))))
  have e1 : IntKind.i64.wrap ((((i + 1 : Nat) : Int) - 1) - 1) = ((i : Nat) : Int) - 1 := by rw [wrap_i64]; omega
  have e2 : pwS a (e / 2 ^ (i + 1)) * pwS a (e / 2 ^ (i + 1)) = pwS a (e / 2 ^ i) := by
    rw [half_step e i, hb]
    exact (GS.pw_dbl a (e / 2 ^ (i + 1))).symm
  rw [e1, e2] at hs
  exact hs
theorem pwS_end (a : Fin Rr) (e : Nat) : Sound Try.prog 17 false (loopB Try.f87 0) (pwIS (rangeB Try.f85 0) a e 0).aa (.exit 0) (pwZS (rangeB Try.f85 0) a e (pwS a e)).aa := by
  have hs := roundK_sound (P := Try.prog) (X := rulesQ _) (env := []) trivial (n := 2) (os := oL [(31, wO 2)]) (fb := 17) (rd := false) (c := loopB Try.f87 0) (k := 30) (I := pwIS (rangeB Try.f85 0) a e 0) (sk := []) (hk := [2, 3, 4, 5, 7, 11, 15, 16]) (lk := [(16, [3, 7])]) (ex := .exit 0)
    (L := pwZS (rangeB Try.f85 0) a e (pwS a (e / 2 ^ 0))) (by kernel_rfl) (And.intro (show decide ((((0 : Nat) : Int) - 1) ≥ 0) = false from by decide) trivial)
  rw [Nat.pow_zero, Nat.div_one] at hs
  exact hs
theorem pwS_loop (a : Fin Rr) (e : Nat) (y : { i : Nat // i ≤ 256 }) : Sound Try.prog 17 false (.loop (loopB Try.f87 0)) (pwIS (rangeB Try.f85 0) a e y.val).aa (.exit 0) (pwZS (rangeB Try.f85 0) a e (pwS a e)).aa := by
  refine loop_ok (m := fun y : { i : Nat // i ≤ 256 } => y.val) (fun y => pwIS (rangeB Try.f85 0) a e y.val) (by simp) (fun y => ?_) y
  obtain ⟨i, hi⟩ := y
  cases i with
  | zero => exact .inr (pwS_end a e)
  | succ i =>
    refine .inl ⟨⟨i, by omega⟩, Nat.lt_succ_self i, ?_⟩
    rcases Nat.mod_two_eq_zero_or_one (e / 2 ^ i) with hb | hb
    · exact pwS_0 a e i (by omega) hb
    · exact pwS_1 a e i (by omega) hb
theorem powerS (a : Fin Rr) (e : Nat) (he : e < 18446744073709551616 ^ 4) : Gives Try.prog 85 [.t (.ag [.s a]), .t (.ag [.s 1]), .rd [.n 4 e] 4 4] (.ag [.s (pwS a e)]) :=
  fn_gives_at (P := Try.prog) (X := rules0) (env := [eBitsS]) ⟨eBitsS_ok, trivial⟩ Try.func85 2 (oL [(21, lpO { I := pwJS (rangeB Try.f85 0) a e (IntKind.i64.wrap (((nbits 4 e : Nat) : Int) - 1)) 1, ex := .exit 0, E := pwZS (rangeB Try.f85 0) a e (pwS a e), fr := 22, lk := [(16, [3, 7])] })]) (by kernel_rfl) ⟨_, rfl⟩
    (And.intro (show some (pwJS (rangeB Try.f85 0) a e (IntKind.i64.wrap (((nbits 4 e : Nat) : Int) - 1)) 1) = some (pwJS (rangeB Try.f85 0) a e (IntKind.i64.wrap (((nbits 4 e : Nat) : Int) - 1)) 1) from rfl) (And.intro (show Sound Try.prog 17 false (.loop (loopB Try.f87 0)) (pwJS (rangeB Try.f85 0) a e (IntKind.i64.wrap (((nbits 4 e : Nat) : Int) - 1)) 1).aa (.exit 0) (pwZS (rangeB Try.f85 0) a e (pwS a e)).aa from by
      have hn := nbits_le 4 e
      have e1 : IntKind.i64.wrap (((nbits 4 e : Nat) : Int) - 1) = ((nbits 4 e : Nat) : Int) - 1 := by rw [wrap_i64]; omega
      have hl := pwS_loop a e ⟨nbits 4 e, by omega⟩
      have e2 : pwIS (rangeB Try.f85 0) a e (nbits 4 e) = pwJS (rangeB Try.f85 0) a e (((nbits 4 e : Nat) : Int) - 1) 1 := by
        have : pwS a (e / 2 ^ nbits 4 e) = 1 := by rw [nbits_all he]; rfl
        simp only [pwIS, pwJS, this]
      rw [e1, ← e2]
      exact hl) (And.intro (show e < 18446744073709551616 ^ 4 from he) trivial)))
def ePowerS : Entry := entry3 85 parS.x parS.x (XPar.rd 4 parN4 (fun _ => rfl)) (fun a y e => [(some (y = 1 ∧ e < 18446744073709551616 ^ 4), .ag [.s (pwS a e)])])
theorem ePowerS_ok : ePowerS.OK Try.prog := entry3_ok (fun args w => Go.Proofs.enters_of (P := Try.prog) Try.func85 (by kernel_rfl) rfl args w) (fun a y e => onlyIf (fun h => by obtain ⟨rfl, h⟩ := h; exact powerS a e h))
theorem inverseS (a : Fin Rr) : Gives Try.prog 84 [.t (.ag [.s a])] (.ag [.s (pwS a 52435875175126190479447740508185965837690552500527637822603658699938581184511)]) :=
  fn_gives (P := Try.prog) (env := [eRS, eSmS, ePowerS]) ⟨eRS_ok, eSmS_ok, ePowerS_ok, trivial⟩ Try.func84 0 o0 (by kernel_rfl) (And.intro (show ofR (1 % 18446744073709551616) = 1 ∧ 52435875175126190479447740508185965837690552500527637822603658699938581184511 < 18446744073709551616 ^ 4 from ⟨by decide, by decide⟩) trivial)
def eInvS : Entry := entry1 84 parS.x (fun a => [(none, .ag [.s (pwS a 52435875175126190479447740508185965837690552500527637822603658699938581184511)])])
theorem eInvS_ok : eInvS.OK Try.prog := entry1_ok (fun args w => Go.Proofs.enters_of (P := Try.prog) Try.func84 (by kernel_rfl) rfl args w) (fun a => only (inverseS a))
end Go.Proofs.Ytoigbjimhcgolaa
