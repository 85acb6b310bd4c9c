/- The contract of full.Pow: a power in the greatest field. -/
import Derived.Test.YtapapelfjjnhmaaBiP
import Derived.Test.YtapapelfjjnhmaaPwn
import Derived.Test.YtapapelfjjnhmaaTo2
import Derived.Test.YtapapelfjjnhmaaAl3
set_option linter.unusedSimpArgs false
set_option linter.unusedVariables false
namespace Go.Proofs.Ytapapelfjjnhmaa
open Go.Ev Go.RowKit

def G12 : Mon F12 := { mul := mul12, one := one12, assoc := mul12_assoc, one_mul := fun a => by rw [mul12_comm, mul12_one], mul_one := mul12_one }
def pwT (a : F12) (n : Nat) : F12 := pw mul12 one12 a n

def pwITl (r : Array Tmp × Code × Code) (A : F12) (a : F12) (e i : Nat) : LState := { n := 24, sl := [(0, .yd 17), (1, .p 12 0), (3, .v (.int .i64 (((i : Nat) : Int) - 1)))], hp := [(0, .own (q12 A) 30), (1, .own [.n 6 e] 24), (2, .own (List.replicate 72 (.c (.int .u64 0))) 30), (6, .own (m12 a) 56), (7, .own (m12 (pwT a (e / 2 ^ i))) 56), (12, .own [.sl 1 0 6 6] 62), (16, .dfd),
  (17, .lp .ready none ⟨23, .any, trOf [(5, .p 6 0), (6, .p 7 0)]⟩ r.1 r.2.1 r.2.2 16)] }
def pwJTl (r : Array Tmp × Code × Code) (A : F12) (a : F12) (e : Nat) (z : Int) (v : F12) : LState := { n := 24, sl := [(0, .yd 17), (1, .p 12 0), (3, .v (.int .i64 (z)))], hp := [(0, .own (q12 A) 30), (1, .own [.n 6 e] 24), (2, .own (List.replicate 72 (.c (.int .u64 0))) 30), (6, .own (m12 a) 56), (7, .own (m12 (v)) 56), (12, .own [.sl 1 0 6 6] 62), (16, .dfd),
  (17, .lp .ready none ⟨23, .any, trOf [(5, .p 6 0), (6, .p 7 0)]⟩ r.1 r.2.1 r.2.2 16)] }
def pwZTl (r : Array Tmp × Code × Code) (A : F12) (a : F12) (e : Nat) (v : F12) : LState := { n := 24, sl := [], hp := [(0, .own (q12 A) 30), (1, .own [.n 6 e] 24), (2, .own (List.replicate 72 (.c (.int .u64 0))) 30), (6, .own (m12 a) 56), (7, .own (m12 (v)) 56), (12, .own [.sl 1 0 6 6] 62), (16, .dfd),
  (17, .lp .ready none ⟨23, .any, trOf [(5, .p 6 0), (6, .p 7 0)]⟩ r.1 r.2.1 r.2.2 16)] }
theorem pwTl_1 (A : F12) (a : F12) (e i : Nat) (hi : i < 384) (hb : e / 2 ^ i % 2 = 1) : Sound Try.prog 18 false (loopB Try.f66 0) (pwITl (rangeB Try.f8 0) A a e (i + 1)).aa .normal (pwITl (rangeB Try.f8 0) A a e i).aa := by
  have hs := roundK_sound (P := Try.prog) (X := rulesQ _) (env := [eTimes12]) ⟨eTimes12_ok, trivial⟩ (n := 2) (os := oL [(31, wO 1), (36, rO 2 (i / 64)), (37, rO 3 0), (40, rO 4 (i % 64)), (42, wO 1)]) (fb := 18) (rd := false) (c := loopB Try.f66 0) (k := 30) (I := pwITl (rangeB Try.f8 0) A a e (i + 1)) (sk := [0, 1, 3]) (hk := [0, 1, 2, 6, 7, 12, 16, 17]) (lk := [(17, [5, 6])]) (ex := .normal)
    (L := pwJTl (rangeB Try.f8 0) A a e (IntKind.i64.wrap ((((i + 1 : Nat) : Int) - 1) - 1)) (mul12 (mul12 (pwT a (e / 2 ^ (i + 1))) (pwT a (e / 2 ^ (i + 1)))) a)) (by kernel_rfl) (And.intro (show decide ((e / 18446744073709551616 ^ (0 + i / 64 * 1) % 18446744073709551616 / 2 ^ (i % 64) % 18446744073709551616 &&& 1) % 18446744073709551616 = 1) = true from by rw [bit_test, hb]; rfl) (And.intro (show (((i + 1 : Nat) : Int) - 1).tmod 64 = ((i % 64 : Nat) : Int) ∧ i % 64 < 64 from ⟨by rw [show (((i + 1 : Nat) : Int) - 1) = ((i : Nat) : Int) by omega]; exact tmod64 i, Nat.mod_lt _ (by decide)⟩) (And.intro (show 0 + i / 64 * 1 < 6 from by omega) (And.intro (show IntKind.i64.wrap ((((i + 1 : Nat) : Int) - 1).tdiv 64) = ((i / 64 : Nat) : Int) ∧ i / 64 < 6 from ⟨by rw [show (((i + 1 : Nat) : Int) - 1) = ((i : Nat) : Int) by omega]; exact tdiv64 i (by omega), by omega⟩) (And.intro (show decide (((((i + 1 : Nat) : Int)) - 1) ≥ 0) = true from decide_eq_true (by omega)) trivial)))))
  have e1 : IntKind.i64.wrap ((((i + 1 : Nat) : Int) - 1) - 1) = ((i : Nat) : Int) - 1 := by rw [wrap_i64]; omega
  have e2 : mul12 (mul12 (pwT a (e / 2 ^ (i + 1))) (pwT a (e / 2 ^ (i + 1)))) a = pwT a (e / 2 ^ i) := by
    rw [half_step e i, hb]
    exact (congrArg (fun z => mul12 z a) (G12.pw_dbl a (e / 2 ^ (i + 1))).symm)
  rw [e1, e2] at hs
  exact hs
theorem pwTl_0 (A : F12) (a : F12) (e i : Nat) (hi : i < 384) (hb : e / 2 ^ i % 2 = 0) : Sound Try.prog 18 false (loopB Try.f66 0) (pwITl (rangeB Try.f8 0) A a e (i + 1)).aa .normal (pwITl (rangeB Try.f8 0) A a e i).aa := by
  have hs := roundK_sound (P := Try.prog) (X := rulesQ _) (env := [eTimes12]) ⟨eTimes12_ok, trivial⟩ (n := 2) (os := oL [(31, wO 1), (36, rO 2 (i / 64)), (37, rO 3 0), (40, rO 4 (i % 64)), (42, wO 2)]) (fb := 18) (rd := false) (c := loopB Try.f66 0) (k := 30) (I := pwITl (rangeB Try.f8 0) A a e (i + 1)) (sk := [0, 1, 3]) (hk := [0, 1, 2, 6, 7, 12, 16, 17]) (lk := [(17, [5, 6])]) (ex := .normal)
    (L := pwJTl (rangeB Try.f8 0) A a e (IntKind.i64.wrap ((((i + 1 : Nat) : Int) - 1) - 1)) (mul12 (pwT a (e / 2 ^ (i + 1))) (pwT a (e / 2 ^ (i + 1))))) (by kernel_rfl) (And.intro (show decide ((e / 18446744073709551616 ^ (0 + i / 64 * 1) % 18446744073709551616 / 2 ^ (i % 64) % 18446744073709551616 &&& 1) % 18446744073709551616 = 1) = false from by rw [bit_test, hb]; rfl) (And.intro (show (((i + 1 : Nat) : Int) - 1).tmod 64 = ((i % 64 : Nat) : Int) ∧ i % 64 < 64 from ⟨by rw [show (((i + 1 : Nat) : Int) - 1) = ((i : Nat) : Int) by omega]; exact tmod64 i, Nat.mod_lt _ (by decide)⟩) (And.intro (show 0 + i / 64 * 1 < 6 from by omega) (And.intro (show IntKind.i64.wrap ((((i + 1 : Nat) : Int) - 1).tdiv 64) = ((i / 64 : Nat) : Int) ∧ i / 64 < 6 from ⟨by rw [show (((i + 1 : Nat) : Int) - 1) = ((i : Nat) : Int) by omega]; exact tdiv64 i (by omega), by omega⟩) (And.intro (show decide (((((i + 1 : Nat) : Int)) - 1) ≥ 0) = true from decide_eq_true (by omega)) trivial)))))
  have e1 : IntKind.i64.wrap ((((i + 1 : Nat) : Int) - 1) - 1) = ((i : Nat) : Int) - 1 := by rw [wrap_i64]; omega
  have e2 : mul12 (pwT a (e / 2 ^ (i + 1))) (pwT a (e / 2 ^ (i + 1))) = pwT a (e / 2 ^ i) := by
    rw [half_step e i, hb]
    exact (G12.pw_dbl a (e / 2 ^ (i + 1))).symm
  rw [e1, e2] at hs
  exact hs
theorem pwTl_end (A : F12) (a : F12) (e : Nat) : Sound Try.prog 18 false (loopB Try.f66 0) (pwITl (rangeB Try.f8 0) A a e 0).aa (.exit 0) (pwZTl (rangeB Try.f8 0) A a e (pwT a e)).aa := by
  have hs := roundK_sound (P := Try.prog) (X := rulesQ _) (env := []) trivial (n := 2) (os := oL [(31, wO 2)]) (fb := 18) (rd := false) (c := loopB Try.f66 0) (k := 30) (I := pwITl (rangeB Try.f8 0) A a e 0) (sk := []) (hk := [0, 1, 2, 6, 7, 12, 16, 17]) (lk := [(17, [5, 6])]) (ex := .exit 0)
    (L := pwZTl (rangeB Try.f8 0) A a e (pwT a (e / 2 ^ 0))) (by kernel_rfl) (And.intro (show decide ((((0 : Nat) : Int) - 1) ≥ 0) = false from by decide) trivial)
  rw [Nat.pow_zero, Nat.div_one] at hs
  exact hs
theorem pwTl_loop (A : F12) (a : F12) (e : Nat) (y : { i : Nat // i ≤ 384 }) : Sound Try.prog 18 false (.loop (loopB Try.f66 0)) (pwITl (rangeB Try.f8 0) A a e y.val).aa (.exit 0) (pwZTl (rangeB Try.f8 0) A a e (pwT a e)).aa := by
  refine loop_ok (m := fun y : { i : Nat // i ≤ 384 } => y.val) (fun y => pwITl (rangeB Try.f8 0) A a e y.val) (by simp) (fun y => ?_) y
  obtain ⟨i, hi⟩ := y
  cases i with
  | zero => exact .inr (pwTl_end A a e)
  | succ i =>
    refine .inl ⟨⟨i, by omega⟩, Nat.lt_succ_self i, ?_⟩
    rcases Nat.mod_two_eq_zero_or_one (e / 2 ^ i) with hb | hb
    · exact pwTl_0 A a e i (by omega) hb
    · exact pwTl_1 A a e i (by omega) hb
theorem pwTl_all (A : F12) (a : F12) (e : Nat) (he : e < 18446744073709551616 ^ 6) : Sound Try.prog 18 false (.loop (loopB Try.f66 0)) (pwJTl (rangeB Try.f8 0) A a e (IntKind.i64.wrap (((nbits 6 e : Nat) : Int) - 1)) one12).aa (.exit 0) (pwZTl (rangeB Try.f8 0) A a e (pwT a e)).aa := by
  have hn := nbits_le 6 e
  have e1 : IntKind.i64.wrap (((nbits 6 e : Nat) : Int) - 1) = ((nbits 6 e : Nat) : Int) - 1 := by rw [wrap_i64]; omega
  have hl := pwTl_loop A a e ⟨nbits 6 e, by omega⟩
  have e2 : pwITl (rangeB Try.f8 0) A a e (nbits 6 e) = pwJTl (rangeB Try.f8 0) A a e (((nbits 6 e : Nat) : Int) - 1) one12 := by
    have : pwT a (e / 2 ^ nbits 6 e) = one12 := by rw [nbits_all he]; rfl
    simp only [pwITl, pwJTl, this]
  rw [e1, ← e2]
  exact hl
theorem powT_l (a : F12) (e : Nat) (he : e < 18446744073709551616 ^ 6) : Gives Try.prog 8 [.t (.ag (q12 a)), .t (.ag [.n 6 e])] (.ag (q12 (pwT a e))) :=
  fn_gives_at (P := Try.prog) (X := rules0) (env := [eIn12, eOut12, eOne12, eBitsP]) ⟨eIn12_ok, eOut12_ok, eOne12_ok, eBitsP_ok, trivial⟩ Try.func8 2 (oL [(22, lpO { I := pwJTl (rangeB Try.f8 0) (a) a e (IntKind.i64.wrap (((nbits 6 e : Nat) : Int) - 1)) one12, ex := .exit 0, E := pwZTl (rangeB Try.f8 0) (a) a e (pwT a e), fr := 23, lk := [(17, [5, 6])] })]) (by kernel_rfl) ⟨_, rfl⟩
    (And.intro (show some (pwJTl (rangeB Try.f8 0) (a) a e (IntKind.i64.wrap (((nbits 6 e : Nat) : Int) - 1)) one12) = some (pwJTl (rangeB Try.f8 0) (a) a e (IntKind.i64.wrap (((nbits 6 e : Nat) : Int) - 1)) one12) from rfl) (And.intro (show Sound Try.prog 18 false (.loop (loopB Try.f66 0)) (pwJTl (rangeB Try.f8 0) (a) a e (IntKind.i64.wrap (((nbits 6 e : Nat) : Int) - 1)) one12).aa (.exit 0) (pwZTl (rangeB Try.f8 0) (a) a e (pwT a e)).aa from pwTl_all _ _ e he) (And.intro (show e < 18446744073709551616 ^ 6 from he) trivial)))
def pwITr (r : Array Tmp × Code × Code) (A : N12) (a : F12) (e i : Nat) : LState := { n := 24, sl := [(0, .yd 17), (1, .p 12 0), (3, .v (.int .i64 (((i : Nat) : Int) - 1)))], hp := [(0, .own (n12 A) 30), (1, .own [.n 6 e] 24), (2, .own (List.replicate 72 (.c (.int .u64 0))) 30), (6, .own (m12 a) 56), (7, .own (m12 (pwT a (e / 2 ^ i))) 56), (12, .own [.sl 1 0 6 6] 62), (16, .dfd),
  (17, .lp .ready none ⟨23, .any, trOf [(5, .p 6 0), (6, .p 7 0)]⟩ r.1 r.2.1 r.2.2 16)] }
def pwJTr (r : Array Tmp × Code × Code) (A : N12) (a : F12) (e : Nat) (z : Int) (v : F12) : LState := { n := 24, sl := [(0, .yd 17), (1, .p 12 0), (3, .v (.int .i64 (z)))], hp := [(0, .own (n12 A) 30), (1, .own [.n 6 e] 24), (2, .own (List.replicate 72 (.c (.int .u64 0))) 30), (6, .own (m12 a) 56), (7, .own (m12 (v)) 56), (12, .own [.sl 1 0 6 6] 62), (16, .dfd),
  (17, .lp .ready none ⟨23, .any, trOf [(5, .p 6 0), (6, .p 7 0)]⟩ r.1 r.2.1 r.2.2 16)] }
def pwZTr (r : Array Tmp × Code × Code) (A : N12) (a : F12) (e : Nat) (v : F12) : LState := { n := 24, sl := [], hp := [(0, .own (n12 A) 30), (1, .own [.n 6 e] 24), (2, .own (List.replicate 72 (.c (.int .u64 0))) 30), (6, .own (m12 a) 56), (7, .own (m12 (v)) 56), (12, .own [.sl 1 0 6 6] 62), (16, .dfd),
  (17, .lp .ready none ⟨23, .any, trOf [(5, .p 6 0), (6, .p 7 0)]⟩ r.1 r.2.1 r.2.2 16)] }
theorem pwTr_1 (A : N12) (a : F12) (e i : Nat) (hi : i < 384) (hb : e / 2 ^ i % 2 = 1) : Sound Try.prog 18 false (loopB Try.f66 0) (pwITr (rangeB Try.f8 0) A a e (i + 1)).aa .normal (pwITr (rangeB Try.f8 0) A a e i).aa := by
  have hs := roundK_sound (P := Try.prog) (X := rulesQ _) (env := [eTimes12]) ⟨eTimes12_ok, trivial⟩ (n := 2) (os := oL [(31, wO 1), (36, rO 2 (i / 64)), (37, rO 3 0), (40, rO 4 (i % 64)), (42, wO 1)]) (fb := 18) (rd := false) (c := loopB Try.f66 0) (k := 30) (I := pwITr (rangeB Try.f8 0) A a e (i + 1)) (sk := [0, 1, 3]) (hk := [0, 1, 2, 6, 7, 12, 16, 17]) (lk := [(17, [5, 6])]) (ex := .normal)
    (L := pwJTr (rangeB Try.f8 0) A a e (IntKind.i64.wrap ((((i + 1 : Nat) : Int) - 1) - 1)) (mul12 (mul12 (pwT a (e / 2 ^ (i + 1))) (pwT a (e / 2 ^ (i + 1)))) a)) (by kernel_rfl) (And.intro (show decide ((e / 18446744073709551616 ^ (0 + i / 64 * 1) % 18446744073709551616 / 2 ^ (i % 64) % 18446744073709551616 &&& 1) % 18446744073709551616 = 1) = true from by rw [bit_test, hb]; rfl) (And.intro (show (((i + 1 : Nat) : Int) - 1).tmod 64 = ((i % 64 : Nat) : Int) ∧ i % 64 < 64 from ⟨by rw [show (((i + 1 : Nat) : Int) - 1) = ((i : Nat) : Int) by omega]; exact tmod64 i, Nat.mod_lt _ (by decide)⟩) (And.intro (show 0 + i / 64 * 1 < 6 from by omega) (And.intro (show IntKind.i64.wrap ((((i + 1 : Nat) : Int) - 1).tdiv 64) = ((i / 64 : Nat) : Int) ∧ i / 64 < 6 from ⟨by rw [show (((i + 1 : Nat) : Int) - 1) = ((i : Nat) : Int) by omega]; exact tdiv64 i (by omega), by omega⟩) (And.intro (show decide (((((i + 1 : Nat) : Int)) - 1) ≥ 0) = true from decide_eq_true (by omega)) trivial)))))
  have e1 : IntKind.i64.wrap ((((i + 1 : Nat) : Int) - 1) - 1) = ((i : Nat) : Int) - 1 := by rw [wrap_i64]; omega
  have e2 : mul12 (mul12 (pwT a (e / 2 ^ (i + 1))) (pwT a (e / 2 ^ (i + 1)))) a = pwT a (e / 2 ^ i) := by
    rw [half_step e i, hb]
    exact (congrArg (fun z => mul12 z a) (G12.pw_dbl a (e / 2 ^ (i + 1))).symm)
  rw [e1, e2] at hs
  exact hs
theorem pwTr_0 (A : N12) (a : F12) (e i : Nat) (hi : i < 384) (hb : e / 2 ^ i % 2 = 0) : Sound Try.prog 18 false (loopB Try.f66 0) (pwITr (rangeB Try.f8 0) A a e (i + 1)).aa .normal (pwITr (rangeB Try.f8 0) A a e i).aa := by
  have hs := roundK_sound (P := Try.prog) (X := rulesQ _) (env := [eTimes12]) ⟨eTimes12_ok, trivial⟩ (n := 2) (os := oL [(31, wO 1), (36, rO 2 (i / 64)), (37, rO 3 0), (40, rO 4 (i % 64)), (42, wO 2)]) (fb := 18) (rd := false) (c := loopB Try.f66 0) (k := 30) (I := pwITr (rangeB Try.f8 0) A a e (i + 1)) (sk := [0, 1, 3]) (hk := [0, 1, 2, 6, 7, 12, 16, 17]) (lk := [(17, [5, 6])]) (ex := .normal)
    (L := pwJTr (rangeB Try.f8 0) A a e (IntKind.i64.wrap ((((i + 1 : Nat) : Int) - 1) - 1)) (mul12 (pwT a (e / 2 ^ (i + 1))) (pwT a (e / 2 ^ (i + 1))))) (by kernel_rfl) (And.intro (show decide ((e / 18446744073709551616 ^ (0 + i / 64 * 1) % 18446744073709551616 / 2 ^ (i % 64) % 18446744073709551616 &&& 1) % 18446744073709551616 = 1) = false from by rw [bit_test, hb]; rfl) (And.intro (show (((i + 1 : Nat) : Int) - 1).tmod 64 = ((i % 64 : Nat) : Int) ∧ i % 64 < 64 from ⟨by rw [show (((i + 1 : Nat) : Int) - 1) = ((i : Nat) : Int) by omega]; exact tmod64 i, Nat.mod_lt _ (by decide)⟩) (And.intro (show 0 + i / 64 * 1 < 6 from by omega) (And.intro (show IntKind.i64.wrap ((((i + 1 : Nat) : Int) - 1).tdiv 64) = ((i / 64 : Nat) : Int) ∧ i / 64 < 6 from ⟨by rw [show (((i + 1 : Nat) : Int) - 1) = ((i : Nat) : Int) by omega]; exact tdiv64 i (by omega), by omega⟩) (And.intro (show decide (((((i + 1 : Nat) : Int)) - 1) ≥ 0) = true from decide_eq_true (by omega)) trivial)))))
  have e1 : IntKind.i64.wrap ((((i + 1 : Nat) : Int) - 1) - 1) = ((i : Nat) : Int) - 1 := by rw [wrap_i64]; omega
  have e2 : mul12 (pwT a (e / 2 ^ (i + 1))) (pwT a (e / 2 ^ (i + 1))) = pwT a (e / 2 ^ i) := by
    rw [half_step e i, hb]
    exact (G12.pw_dbl a (e / 2 ^ (i + 1))).symm
  rw [e1, e2] at hs
  exact hs
theorem pwTr_end (A : N12) (a : F12) (e : Nat) : Sound Try.prog 18 false (loopB Try.f66 0) (pwITr (rangeB Try.f8 0) A a e 0).aa (.exit 0) (pwZTr (rangeB Try.f8 0) A a e (pwT a e)).aa := by
  have hs := roundK_sound (P := Try.prog) (X := rulesQ _) (env := []) trivial (n := 2) (os := oL [(31, wO 2)]) (fb := 18) (rd := false) (c := loopB Try.f66 0) (k := 30) (I := pwITr (rangeB Try.f8 0) A a e 0) (sk := []) (hk := [0, 1, 2, 6, 7, 12, 16, 17]) (lk := [(17, [5, 6])]) (ex := .exit 0)
    (L := pwZTr (rangeB Try.f8 0) A a e (pwT a (e / 2 ^ 0))) (by kernel_rfl) (And.intro (show decide ((((0 : Nat) : Int) - 1) ≥ 0) = false from by decide) trivial)
  rw [Nat.pow_zero, Nat.div_one] at hs
  exact hs
theorem pwTr_loop (A : N12) (a : F12) (e : Nat) (y : { i : Nat // i ≤ 384 }) : Sound Try.prog 18 false (.loop (loopB Try.f66 0)) (pwITr (rangeB Try.f8 0) A a e y.val).aa (.exit 0) (pwZTr (rangeB Try.f8 0) A a e (pwT a e)).aa := by
  refine loop_ok (m := fun y : { i : Nat // i ≤ 384 } => y.val) (fun y => pwITr (rangeB Try.f8 0) A a e y.val) (by simp) (fun y => ?_) y
  obtain ⟨i, hi⟩ := y
  cases i with
  | zero => exact .inr (pwTr_end A a e)
  | succ i =>
    refine .inl ⟨⟨i, by omega⟩, Nat.lt_succ_self i, ?_⟩
    rcases Nat.mod_two_eq_zero_or_one (e / 2 ^ i) with hb | hb
    · exact pwTr_0 A a e i (by omega) hb
    · exact pwTr_1 A a e i (by omega) hb
theorem pwTr_all (A : N12) (a : F12) (e : Nat) (he : e < 18446744073709551616 ^ 6) : Sound Try.prog 18 false (.loop (loopB Try.f66 0)) (pwJTr (rangeB Try.f8 0) A a e (IntKind.i64.wrap (((nbits 6 e : Nat) : Int) - 1)) one12).aa (.exit 0) (pwZTr (rangeB Try.f8 0) A a e (pwT a e)).aa := by
  have hn := nbits_le 6 e
  have e1 : IntKind.i64.wrap (((nbits 6 e : Nat) : Int) - 1) = ((nbits 6 e : Nat) : Int) - 1 := by rw [wrap_i64]; omega
  have hl := pwTr_loop A a e ⟨nbits 6 e, by omega⟩
  have e2 : pwITr (rangeB Try.f8 0) A a e (nbits 6 e) = pwJTr (rangeB Try.f8 0) A a e (((nbits 6 e : Nat) : Int) - 1) one12 := by
    have : pwT a (e / 2 ^ nbits 6 e) = one12 := by rw [nbits_all he]; rfl
    simp only [pwITr, pwJTr, this]
  rw [e1, ← e2]
  exact hl
theorem powT_r (a : N12) (e : Nat) (he : e < 18446744073709551616 ^ 6) (hs : small12 a) : Gives Try.prog 8 [.t (.ag (n12 a)), .t (.ag [.n 6 e])] (.ag (q12 (pwT (of12 a) e))) :=
  fn_gives_at (P := Try.prog) (X := rules0) (env := [eIn12, eOut12, eOne12, eBitsP]) ⟨eIn12_ok, eOut12_ok, eOne12_ok, eBitsP_ok, trivial⟩ Try.func8 2 (oL [(22, lpO { I := pwJTr (rangeB Try.f8 0) (a) (of12 a) e (IntKind.i64.wrap (((nbits 6 e : Nat) : Int) - 1)) one12, ex := .exit 0, E := pwZTr (rangeB Try.f8 0) (a) (of12 a) e (pwT (of12 a) e), fr := 23, lk := [(17, [5, 6])] })]) (by kernel_rfl) ⟨_, rfl⟩
    (And.intro (show some (pwJTr (rangeB Try.f8 0) (a) (of12 a) e (IntKind.i64.wrap (((nbits 6 e : Nat) : Int) - 1)) one12) = some (pwJTr (rangeB Try.f8 0) (a) (of12 a) e (IntKind.i64.wrap (((nbits 6 e : Nat) : Int) - 1)) one12) from rfl) (And.intro (show Sound Try.prog 18 false (.loop (loopB Try.f66 0)) (pwJTr (rangeB Try.f8 0) (a) (of12 a) e (IntKind.i64.wrap (((nbits 6 e : Nat) : Int) - 1)) one12).aa (.exit 0) (pwZTr (rangeB Try.f8 0) (a) (of12 a) e (pwT (of12 a) e)).aa from pwTr_all _ _ e he) (And.intro (show e < 18446744073709551616 ^ 6 from he) (And.intro (show small12 a from hs) trivial))))
def eUPow : Entry := entry2 8 par12 parN6.x (fun a e => [(some (sm12 a ∧ e < 18446744073709551616 ^ 6), .ag (q12 (pwT (el12 a) e)))])
theorem eUPow_ok : eUPow.OK Try.prog := entry2_ok (fun args w => Go.Proofs.enters_of (P := Try.prog) Try.func8 (by kernel_rfl) rfl args w) (fun a e => match a with
  | .inl a => onlyIf (fun h => powT_l a e h.2)
  | .inr a => onlyIf (fun h => powT_r a e h.2 h.1))
end Go.Proofs.Ytapapelfjjnhmaa
