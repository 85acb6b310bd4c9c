/- Pruned: ZhPwP. -/
import Derived.Test.YtmbllhibdbeplaaQZhBiP
import Derived.Test.YtmbllhibdbeplaaQZhPwn
import Derived.Test.YtmbllhibdbeplaaQZhRcP
set_option linter.unusedSimpArgs false
set_option linter.unusedVariables false
namespace Go.Proofs.Ytmbllhibdbeplaa
open Go.Ev Go.RowKit

def pwIP (r : Array Tmp × Code × Code) (a : Fin Pp) (e i : Nat) : LState := { n := 24, sl := [(0, .yd 16), (1, .p 11 0), (3, .v (.int .i64 (((i : Nat) : Int) - 1)))], hp := [(2, .ro [.n 6 e]), (3, .own [.m a] 109), (4, .own [.m 1] 109), (5, .own [.c (.int .u64 0), .c (.int .u64 0), .c (.int .u64 0), .c (.int .u64 0), .c (.int .u64 0), .c (.int .u64 0)] 109), (7, .own [.m (pwP a (e / 2 ^ i))] 109), (11, .own [.sl 2 0 6 6] 118), (15, .dfd),
  (16, .lp .ready none ⟨23, .any, trOf [(3, .p 3 0), (7, .p 7 0)]⟩ r.1 r.2.1 r.2.2 15)] }
def pwJP (r : Array Tmp × Code × Code) (a : Fin Pp) (e : Nat) (z : Int) (v : Fin Pp) : LState := { n := 24, sl := [(0, .yd 16), (1, .p 11 0), (3, .v (.int .i64 (z)))], hp := [(2, .ro [.n 6 e]), (3, .own [.m a] 109), (4, .own [.m 1] 109), (5, .own [.c (.int .u64 0), .c (.int .u64 0), .c (.int .u64 0), .c (.int .u64 0), .c (.int .u64 0), .c (.int .u64 0)] 109), (7, .own [.m (v)] 109), (11, .own [.sl 2 0 6 6] 118), (15, .dfd),
  (16, .lp .ready none ⟨23, .any, trOf [(3, .p 3 0), (7, .p 7 0)]⟩ r.1 r.2.1 r.2.2 15)] }
def pwZP (r : Array Tmp × Code × Code) (a : Fin Pp) (e : Nat) (v : Fin Pp) : LState := { n := 24, sl := [], hp := [(2, .ro [.n 6 e]), (3, .own [.m a] 109), (4, .own [.m 1] 109), (5, .own [.c (.int .u64 0), .c (.int .u64 0), .c (.int .u64 0), .c (.int .u64 0), .c (.int .u64 0), .c (.int .u64 0)] 109), (7, .own [.m (v)] 109), (11, .own [.sl 2 0 6 6] 118), (15, .dfd),
  (16, .lp .ready none ⟨23, .any, trOf [(3, .p 3 0), (7, .p 7 0)]⟩ r.1 r.2.1 r.2.2 15)] }
theorem pwP_1 (a : Fin Pp) (e i : Nat) (hi : i < 384) (hb : e / 2 ^ i % 2 = 1) : Sound Try.prog 17 false (loopB Try.f116 0) (pwIP (rangeB Try.f80 0) a e (i + 1)).aa .normal (pwIP (rangeB Try.f80 0) a e i).aa := by
  have hs := roundK_sound (P := Try.prog) (X := rulesQ _) (env := [eTimesP]) ⟨eTimesP_ok, trivial⟩ (n := 2) (os := oL [(31, wO 1), (36, rO 2 (i / 64)), (37, rO 3 0), (40, rO 4 (i % 64)), (42, wO 1)]) (fb := 17) (rd := false) (c := loopB Try.f116 0) (k := 30) (I := pwIP (rangeB Try.f80 0) a e (i + 1)) (sk := [0, 1, 3]) (hk := [2, 3, 4, 5, 7, 11, 15, 16]) (lk := [(16, [3, 7])]) (ex := .normal)
    (L := pwJP (rangeB Try.f80 0) a e (IntKind.i64.wrap ((((i + 1 : Nat) : Int) - 1) - 1)) (pwP a (e / 2 ^ (i + 1)) * pwP a (e / 2 ^ (i + 1)) * a)) (by kernel_rfl) (And.intro (show decide ((e / 18446744073709551616 ^ (0 + i / 64 * 1) % 18446744073709551616 / 2 ^ (i % 64) % 18446744073709551616 &&& 1) % 18446744073709551616 = 1) = true from by rw [bit_test, hb]; rfl) (And.intro (show (((i + 1 : Nat) : Int) - 1).tmod 64 = ((i % 64 : Nat) : Int) ∧ i % 64 < 64 from ⟨by rw [show (((i + 1 : Nat) : Int) - 1) = ((i : Nat) : Int) by omega]; exact tmod64 i, Nat.mod_lt _ (by decide)⟩) (And.intro (show 0 + i / 64 * 1 < 6 from by omega) (And.intro (show IntKind.i64.wrap ((((i + 1 : Nat) : Int) - 1).tdiv 64) = ((i / 64 : Nat) : Int) ∧ i / 64 < 6 from ⟨by rw [show (((i + 1 : Nat) : Int) - 1) = ((i : Nat) : Int) by omega]; exact tdiv64 i (by omega), by omega⟩) (And.intro (show decide (((((i + 1 : Nat) : Int)) - 1) ≥ 0) = true from decide_eq_true (by omega)) trivial)))))
  have e1 : IntKind.i64.wrap ((((i + 1 : Nat) : Int) - 1) - 1) = ((i : Nat) : Int) - 1 := by rw [wrap_i64]; omega
  have e2 : pwP a (e / 2 ^ (i + 1)) * pwP a (e / 2 ^ (i + 1)) * a = pwP a (e / 2 ^ i) := by
    rw [half_step e i, hb]
    exact (congrArg (· * a) (GP.pw_dbl a (e / 2 ^ (i + 1))).symm)
  rw [e1, e2] at hs
  exact hs
theorem pwP_0 (a : Fin Pp) (e i : Nat) (hi : i < 384) (hb : e / 2 ^ i % 2 = 0) : Sound Try.prog 17 false (loopB Try.f116 0) (pwIP (rangeB Try.f80 0) a e (i + 1)).aa .normal (pwIP (rangeB Try.f80 0) a e i).aa := by
  have hs := roundK_sound (P := Try.prog) (X := rulesQ _) (env := [eTimesP]) ⟨eTimesP_ok, trivial⟩ (n := 2) (os := oL [(31, wO 1), (36, rO 2 (i / 64)), (37, rO 3 0), (40, rO 4 (i % 64)), (42, wO 2)]) (fb := 17) (rd := false) (c := loopB Try.f116 0) (k := 30) (I := pwIP (rangeB Try.f80 0) a e (i + 1)) (sk := [0, 1, 3]) (hk := [2, 3, 4, 5, 7, 11, 15, 16]) (lk := [(16, [3, 7])]) (ex := .normal)
    (L := pwJP (rangeB Try.f80 0) a e (IntKind.i64.wrap ((((i + 1 : Nat) : Int) - 1) - 1)) (pwP a (e / 2 ^ (i + 1)) * pwP a (e / 2 ^ (i + 1)))) (by kernel_rfl) (And.intro (show decide ((e / 18446744073709551616 ^ (0 + i / 64 * 1) % 18446744073709551616 / 2 ^ (i % 64) % 18446744073709551616 &&& 1) % 18446744073709551616 = 1) = false from by rw [bit_test, hb]; rfl) (And.intro (show (((i + 1 : Nat) : Int) - 1).tmod 64 = ((i % 64 : Nat) : Int) ∧ i % 64 < 64 from ⟨by rw [show (((i + 1 : Nat) : Int) - 1) = ((i : Nat) : Int) by omega]; exact tmod64 i, Nat.mod_lt _ (by decide)⟩) (And.intro (show 0 + i / 64 * 1 < 6 from by omega) (And.intro (show IntKind.i64.wrap ((((i + 1 : Nat) : Int) - 1).tdiv 64) = ((i / 64 : Nat) : Int) ∧ i / 64 < 6 from ⟨by rw [show (((i + 1 : Nat) : Int) - 1) = ((i : Nat) : Int) by omega]; exact tdiv64 i (by omega), by omega⟩) (And.intro (show decide (((((i + 1 : Nat) : Int)) - 1) ≥ 0) = true from decide_eq_true (by omega)) trivial)))))
  have e1 : IntKind.i64.wrap ((((i + 1 : Nat) : Int) - 1) - 1) = ((i : Nat) : Int) - 1 := by rw [wrap_i64]; omega
  have e2 : pwP a (e / 2 ^ (i + 1)) * pwP a (e / 2 ^ (i + 1)) = pwP a (e / 2 ^ i) := by
    rw [half_step e i, hb]
    exact (GP.pw_dbl a (e / 2 ^ (i + 1))).symm
  rw [e1, e2] at hs
  exact hs
theorem pwP_end (a : Fin Pp) (e : Nat) : Sound Try.prog 17 false (loopB Try.f116 0) (pwIP (rangeB Try.f80 0) a e 0).aa (.exit 0) (pwZP (rangeB Try.f80 0) a e (pwP a e)).aa := by
  have hs := roundK_sound (P := Try.prog) (X := rulesQ _) (env := []) trivial (n := 2) (os := oL [(31, wO 2)]) (fb := 17) (rd := false) (c := loopB Try.f116 0) (k := 30) (I := pwIP (rangeB Try.f80 0) a e 0) (sk := []) (hk := [2, 3, 4, 5, 7, 11, 15, 16]) (lk := [(16, [3, 7])]) (ex := .exit 0)
    (L := pwZP (rangeB Try.f80 0) a e (pwP a (e / 2 ^ 0))) (by kernel_rfl) (And.intro (show decide ((((0 : Nat) : Int) - 1) ≥ 0) = false from by decide) trivial)
  rw [Nat.pow_zero, Nat.div_one] at hs
  exact hs
theorem pwP_loop (a : Fin Pp) (e : Nat) (y : { i : Nat // i ≤ 384 }) : Sound Try.prog 17 false (.loop (loopB Try.f116 0)) (pwIP (rangeB Try.f80 0) a e y.val).aa (.exit 0) (pwZP (rangeB Try.f80 0) a e (pwP a e)).aa := by
  refine loop_ok (m := fun y : { i : Nat // i ≤ 384 } => y.val) (fun y => pwIP (rangeB Try.f80 0) a e y.val) (by simp) (fun y => ?_) y
  obtain ⟨i, hi⟩ := y
  cases i with
  | zero => exact .inr (pwP_end a e)
  | succ i =>
    refine .inl ⟨⟨i, by omega⟩, Nat.lt_succ_self i, ?_⟩
    rcases Nat.mod_two_eq_zero_or_one (e / 2 ^ i) with hb | hb
    · exact pwP_0 a e i (by omega) hb
    · exact pwP_1 a e i (by omega) hb
theorem powerP (a : Fin Pp) (e : Nat) (he : e < 18446744073709551616 ^ 6) : Gives Try.prog 80 [.t (.ag [.m a]), .t (.ag [.m 1]), .rd [.n 6 e] 6 6] (.ag [.m (pwP a e)]) :=
  fn_gives_at (P := Try.prog) (X := rules0) (env := [eBitsP]) ⟨eBitsP_ok, trivial⟩ Try.func80 2 (oL [(21, lpO { I := pwJP (rangeB Try.f80 0) a e (IntKind.i64.wrap (((nbits 6 e : Nat) : Int) - 1)) 1, ex := .exit 0, E := pwZP (rangeB Try.f80 0) a e (pwP a e), fr := 22, lk := [(16, [3, 7])] })]) (by kernel_rfl) ⟨_, rfl⟩
    (And.intro (show some (pwJP (rangeB Try.f80 0) a e (IntKind.i64.wrap (((nbits 6 e : Nat) : Int) - 1)) 1) = some (pwJP (rangeB Try.f80 0) a e (IntKind.i64.wrap (((nbits 6 e : Nat) : Int) - 1)) 1) from rfl) (And.intro (show Sound Try.prog 17 false (.loop (loopB Try.f116 0)) (pwJP (rangeB Try.f80 0) a e (IntKind.i64.wrap (((nbits 6 e : Nat) : Int) - 1)) 1).aa (.exit 0) (pwZP (rangeB Try.f80 0) a e (pwP a e)).aa from by
      have hn := nbits_le 6 e
      have e1 : IntKind.i64.wrap (((nbits 6 e : Nat) : Int) - 1) = ((nbits 6 e : Nat) : Int) - 1 := by rw [wrap_i64]; omega
      have hl := pwP_loop a e ⟨nbits 6 e, by omega⟩
      have e2 : pwIP (rangeB Try.f80 0) a e (nbits 6 e) = pwJP (rangeB Try.f80 0) a e (((nbits 6 e : Nat) : Int) - 1) 1 := by
        have : pwP a (e / 2 ^ nbits 6 e) = 1 := by rw [nbits_all he]; rfl
        simp only [pwIP, pwJP, this]
      rw [e1, ← e2]
      exact hl) (And.intro (show e < 18446744073709551616 ^ 6 from he) trivial)))
def ePowerP : Entry := entry3 80 parM.x parM.x (XPar.rd 6 parN6 (fun _ => rfl)) (fun a y e => [(some (y = 1 ∧ e < 18446744073709551616 ^ 6), .ag [.m (pwP a e)])])
theorem ePowerP_ok : ePowerP.OK Try.prog := entry3_ok (fun args w => Go.Proofs.enters_of (P := Try.prog) Try.func80 (by kernel_rfl) rfl args w) (fun a y e => onlyIf (fun h => by obtain ⟨rfl, h⟩ := h; exact powerP a e h))
end Go.Proofs.Ytmbllhibdbeplaa
