/- Pruned: ZhRmS. -/
import Derived.Test.YtoigbjimhcgolaaQHb
import Derived.Test.YtoigbjimhcgolaaQHa
import Derived.Test.YtoigbjimhcgolaaQE2
set_option linter.unusedSimpArgs false
set_option linter.unusedVariables false
namespace Go.Proofs.Ytoigbjimhcgolaa
open Go.Ev Go.RowKit

theorem bitS (a i : Nat) (hi : i < 256) : Gives Try.prog 40 [.t (.ag [.n 4 a]), .t (.v (.int .i64 ((i : Nat) : Int)))] (.u (a / 2 ^ i % 2)) := by
  have h := fn_gives_at (P := Try.prog) (X := rulesQ _) (env := []) trivial Try.func40 1 (oL [(4, rO 2 (i / 64)), (5, rO 3 0), (9, rO 4 (i % 64))]) (args := [.t (.ag [.n 4 a]), .t (.v (.int .i64 ((i : Nat) : Int)))]) (r := .u (a / 18446744073709551616 ^ (0 + i / 64 * 1) % 18446744073709551616 / 2 ^ (i % 64) % 18446744073709551616 % 2)) (by kernel_rfl) ⟨_, rfl⟩ (And.intro (show IntKind.u64.wrap (((i : Nat) : Int).tmod 64) = ((i % 64 : Nat) : Int) ∧ i % 64 < 64 from ⟨by rw [tmod64, wrap_u64]; omega, Nat.mod_lt _ (by decide)⟩) (And.intro (show 0 + i / 64 * 1 < 4 from by omega) (And.intro (show IntKind.i64.wrap (((i : Nat) : Int).tdiv 64) = ((i / 64 : Nat) : Int) ∧ i / 64 < 4 from ⟨tdiv64 i (by omega), by omega⟩) trivial)))
  rw [show a / 18446744073709551616 ^ (0 + i / 64 * 1) % 18446744073709551616 / 2 ^ (i % 64) % 18446744073709551616 % 2 = a / 2 ^ i % 2 from by rw [Nat.zero_add, Nat.mul_one, Nat.mod_mod_of_dvd _ (by decide), bit_at _ _ _ (Nat.mod_lt _ (by decide)), show 64 * (i / 64) + i % 64 = i by omega]] at h
  exact h
def eBitS : Entry := entry2 40 parN4.x (XPar.int .i64) (fun a z => [(some (0 ≤ z ∧ z < 256), .u (a / 2 ^ z.toNat % 2))])
theorem eBitS_ok : eBitS.OK Try.prog := entry2_ok (fun args w => Go.Proofs.enters_of (P := Try.prog) Try.func40 (by kernel_rfl) rfl args w) (fun a z => onlyIf (fun h => by
  obtain ⟨i, rfl⟩ : ∃ i : Nat, z = ((i : Nat) : Int) := ⟨z.toNat, by omega⟩
  exact bitS a i (by omega)))
theorem ofR_two (m b : Nat) (hb : b = 0 ∨ b = 1) (y : Fin Rr) : ofR (2 * m + b) * y = (if b = 1 then ofR m * y + ofR m * y + y else ofR m * y + ofR m * y) := by
  have e : ofR (2 * m + b) = ofR m + ofR m + ofR b := Fin.ext (by
    rw [Fin.val_add, Fin.val_add]
    show (2 * m + b) % 52435875175126190479447740508185965837690552500527637822603658699938581184513 = ((m % 52435875175126190479447740508185965837690552500527637822603658699938581184513 + m % 52435875175126190479447740508185965837690552500527637822603658699938581184513) % 52435875175126190479447740508185965837690552500527637822603658699938581184513 + b % 52435875175126190479447740508185965837690552500527637822603658699938581184513) % 52435875175126190479447740508185965837690552500527637822603658699938581184513
    omega)
  have e0 : ofR 0 = 0 := by decide
  have e1 : ofR 1 = 1 := by decide
  rcases hb with rfl | rfl
  · rw [e, e0, if_neg (by decide)]; grind
  · rw [e, e1, if_pos rfl]; grind
def mulSI (x y : Fin Rr) (i : Nat) : LState := { n := 23, sl := [(2, .p 0 0), (3, .p 1 0), (4, .p 2 0), (5, .p 4 0), (6, .v (.int .i64 (((i : Nat) : Int) - 1)))], hp := [(0, .own [.e x] 41), (1, .own [.e y] 41), (2, .own [.c (.int .u64 0), .c (.int .u64 0), .c (.int .u64 0), .c (.int .u64 0)] 41), (4, .own [.e (ofR (x.val / 2 ^ i) * y)] 41)] }
def mulSJ (x y : Fin Rr) (z : Int) (o : List Ch) : LState := { n := 23, sl := [(2, .p 0 0), (3, .p 1 0), (4, .p 2 0), (5, .p 4 0), (6, .v (.int .i64 (z)))], hp := [(0, .own [.e x] 41), (1, .own [.e y] 41), (2, .own [.c (.int .u64 0), .c (.int .u64 0), .c (.int .u64 0), .c (.int .u64 0)] 41), (4, .own o 41)] }
theorem mulS_first (x y : Fin Rr) (n : Nat) (h : x.val / 2 ^ n = 0) : mulSI x y n = mulSJ x y (((n : Nat) : Int) - 1) [.e 0] := by
  have e0 : ofR (x.val / 2 ^ n) * y = 0 := by rw [h, show ofR 0 = 0 from by decide]; grind
  simp only [mulSI, mulSJ, e0]
def mulSZ (x y : Fin Rr) (o : Fin Rr) : LState := { n := 23, sl := [(4, .p 2 0), (5, .p 4 0)], hp := [(0, .own [.e x] 41), (1, .own [.e y] 41), (2, .own [.c (.int .u64 0), .c (.int .u64 0), .c (.int .u64 0), .c (.int .u64 0)] 41), (4, .own [.e o] 41)] }
theorem mulS_1 (x y : Fin Rr) (i : Nat) (hi : i < 256) (hb : x.val / 2 ^ i % 2 = 1) : Sound Try.prog 0 false (loopB Try.f21 0) (mulSI x y (i + 1)).aa .normal (mulSI x y i).aa := by
  have hs := roundR_sound (P := Try.prog) (X := rules0) (env := [eAddS, eBitS]) ⟨eAddS_ok, eBitS_ok, trivial⟩ (n := 0) (os := oL [(31, wO 1), (39, wO 1)]) (fb := 0) (rd := false) (c := loopB Try.f21 0) (k := 30) (I := mulSI x y (i + 1)) (sk := [2, 3, 4, 5, 6]) (hk := [0, 1, 2, 4]) (ex := .normal)
    (L := mulSJ x y (IntKind.i64.wrap ((((i + 1 : Nat) : Int) - 1) - 1)) [.e ((ofR (x.val / 2 ^ (i + 1)) * y + ofR (x.val / 2 ^ (i + 1)) * y) + y)]) (by kernel_rfl) (And.intro (show decide ((x.val / 2 ^ (((i + 1 : Nat) : Int) - 1).toNat % 2) % 18446744073709551616 = 1) = true from by rw [show (((i + 1 : Nat) : Int) - 1).toNat = i by omega, hb]; rfl) (And.intro (show 0 ≤ (((i + 1 : Nat) : Int) - 1) ∧ (((i + 1 : Nat) : Int) - 1) < 256 from by omega) (And.intro (show decide ((((i + 1 : Nat) : Int) - 1) ≥ 0) = true from decide_eq_true (by omega)) trivial)))
  have e1 : IntKind.i64.wrap ((((i + 1 : Nat) : Int) - 1) - 1) = ((i : Nat) : Int) - 1 := by rw [wrap_i64]; omega
  have e2 : (ofR (x.val / 2 ^ (i + 1)) * y + ofR (x.val / 2 ^ (i + 1)) * y) + y = ofR (x.val / 2 ^ i) * y := by
    rw [half_step x.val i, hb]
    rw [ofR_two _ _ (by decide)]; rfl
  rw [e1, e2] at hs
  exact hs
theorem mulS_0 (x y : Fin Rr) (i : Nat) (hi : i < 256) (hb : x.val / 2 ^ i % 2 = 0) : Sound Try.prog 0 false (loopB Try.f21 0) (mulSI x y (i + 1)).aa .normal (mulSI x y i).aa := by
  have hs := roundR_sound (P := Try.prog) (X := rules0) (env := [eAddS, eBitS]) ⟨eAddS_ok, eBitS_ok, trivial⟩ (n := 0) (os := oL [(31, wO 1), (39, wO 2)]) (fb := 0) (rd := false) (c := loopB Try.f21 0) (k := 30) (I := mulSI x y (i + 1)) (sk := [2, 3, 4, 5, 6]) (hk := [0, 1, 2, 4]) (ex := .normal)
    (L := mulSJ x y (IntKind.i64.wrap ((((i + 1 : Nat) : Int) - 1) - 1)) [.e ((ofR (x.val / 2 ^ (i + 1)) * y + ofR (x.val / 2 ^ (i + 1)) * y))]) (by kernel_rfl) (And.intro (show decide ((x.val / 2 ^ (((i + 1 : Nat) : Int) - 1).toNat % 2) % 18446744073709551616 = 1) = false from by rw [show (((i + 1 : Nat) : Int) - 1).toNat = i by omega, hb]; rfl) (And.intro (show 0 ≤ (((i + 1 : Nat) : Int) - 1) ∧ (((i + 1 : Nat) : Int) - 1) < 256 from by omega) (And.intro (show decide ((((i + 1 : Nat) : Int) - 1) ≥ 0) = true from decide_eq_true (by omega)) trivial)))
  have e1 : IntKind.i64.wrap ((((i + 1 : Nat) : Int) - 1) - 1) = ((i : Nat) : Int) - 1 := by rw [wrap_i64]; omega
  have e2 : (ofR (x.val / 2 ^ (i + 1)) * y + ofR (x.val / 2 ^ (i + 1)) * y) = ofR (x.val / 2 ^ i) * y := by
    rw [half_step x.val i, hb]
    rw [ofR_two _ _ (by decide)]; rfl
  rw [e1, e2] at hs
  exact hs
theorem mulS_end (x y : Fin Rr) : Sound Try.prog 0 false (loopB Try.f21 0) (mulSI x y 0).aa (.exit 0) (mulSZ x y (ofR (x.val / 2 ^ 0) * y)).aa :=
  roundR_sound (P := Try.prog) (X := rules0) (env := []) trivial (n := 0) (os := oL [(31, wO 2)]) (fb := 0) (rd := false) (c := loopB Try.f21 0) (k := 30) (I := mulSI x y 0) (sk := [4, 5]) (hk := [0, 1, 2, 4]) (ex := .exit 0) (L := mulSZ x y (ofR (x.val / 2 ^ 0) * y)) (by kernel_rfl) (And.intro (show decide ((((0 : Nat) : Int) - 1) ≥ 0) = false from by decide) trivial)
theorem mulS_loop (x y : Fin Rr) (k : { i : Nat // i ≤ 256 }) : Sound Try.prog 0 false (.loop (loopB Try.f21 0)) (mulSI x y k.val).aa (.exit 0) (mulSZ x y (x * y)).aa := by
  refine loop_ok (m := fun k : { i : Nat // i ≤ 256 } => k.val) (fun k => mulSI x y k.val) (by simp) (fun k => ?_) k
  obtain ⟨i, hi⟩ := k
  cases i with
  | zero =>
    have h := mulS_end x y
    rw [Nat.pow_zero, Nat.div_one, ofR_val] at h
    exact .inr h
  | succ i =>
    refine .inl ⟨⟨i, by omega⟩, Nat.lt_succ_self i, ?_⟩
    rcases Nat.mod_two_eq_zero_or_one (x.val / 2 ^ i) with hb | hb
    · exact mulS_0 x y i (by omega) hb
    · exact mulS_1 x y i (by omega) hb
theorem mulS_gives (x y : Fin Rr)  : Gives Try.prog 21 [.t (.ag [.e x]), .t (.ag [.e y])] (.ag [.e (x * y)]) :=
  fn_gives (P := Try.prog) (env := []) trivial Try.func21 0 (oL [(7, lpO { I := mulSJ x y 255 [.c (.int .u64 0), .c (.int .u64 0), .c (.int .u64 0), .c (.int .u64 0)], ex := .exit 0, E := mulSZ x y (x * y), fr := 8 })]) (by kernel_rfl)
    (And.intro (show some (mulSJ x y 255 [.c (.int .u64 0), .c (.int .u64 0), .c (.int .u64 0), .c (.int .u64 0)]) = some (mulSJ x y 255 [.c (.int .u64 0), .c (.int .u64 0), .c (.int .u64 0), .c (.int .u64 0)]) from rfl) (And.intro (show Sound Try.prog 0 false (.loop (loopB Try.f21 0)) (mulSJ x y 255 [.c (.int .u64 0), .c (.int .u64 0), .c (.int .u64 0), .c (.int .u64 0)]).aa (.exit 0) (mulSZ x y (x * y)).aa from by
      have hx := x.isLt
      simp only [Rr] at hx
      have hl := mulS_loop x y ⟨256, Nat.le_refl _⟩
      rw [show (Subtype.val (p := fun i => i ≤ 256) ⟨256, Nat.le_refl _⟩) = 256 from rfl, mulS_first x y 256 (Nat.div_eq_of_lt (Nat.lt_trans hx (by decide +kernel)))] at hl
      refine Sound.pre (J := mulSJ x y (((256 : Nat) : Int) - 1) [.e 0]) hl [] (by kernel_rfl) ⟨And.intro (And.intro rfl rfl) (And.intro (And.intro rfl rfl) (And.intro (And.intro rfl rfl) (And.intro (And.intro rfl rfl) (And.intro (show Value.int .i64 255 = Value.int .i64 (((256 : Nat) : Int) - 1) from rfl) trivial)))), And.intro (And.intro rfl rfl) (And.intro (And.intro rfl rfl) (And.intro (And.intro rfl rfl) (And.intro (And.intro rfl (show flat [.c (.int .u64 0), .c (.int .u64 0), .c (.int .u64 0), .c (.int .u64 0)] = flat [.e 0] from by kernel_rfl)) trivial)))⟩) trivial))
def eMulSr : Entry := entry2 21 parE.x parE.x (fun x y => [(none, .ag [.e (x * y)])])
theorem eMulSr_ok : eMulSr.OK Try.prog := entry2_ok (fun args w => Go.Proofs.enters_of (P := Try.prog) Try.func21 (by kernel_rfl) rfl args w) (fun x y => only (mulS_gives x y))
def powSI (x : Fin Rr) (y : Nat) (i : Nat) : LState := { n := 23, sl := [(2, .p 0 0), (3, .p 1 0), (4, .p 2 0), (5, .p 4 0), (6, .v (.int .i64 (((i : Nat) : Int) - 1)))], hp := [(0, .own [.e x] 41), (1, .own [.n 4 y] 41), (2, .own [.c (.int .u64 0), .c (.int .u64 0), .c (.int .u64 0), .c (.int .u64 0)] 41), (4, .own [.e (pwS x (y / 2 ^ i))] 41)] }
def powSJ (x : Fin Rr) (y : Nat) (z : Int) (o : List Ch) : LState := { n := 23, sl := [(2, .p 0 0), (3, .p 1 0), (4, .p 2 0), (5, .p 4 0), (6, .v (.int .i64 (z)))], hp := [(0, .own [.e x] 41), (1, .own [.n 4 y] 41), (2, .own [.c (.int .u64 0), .c (.int .u64 0), .c (.int .u64 0), .c (.int .u64 0)] 41), (4, .own o 41)] }
theorem powS_first (x : Fin Rr) (y : Nat) (n : Nat) (h : y / 2 ^ n = 0) : powSI x y n = powSJ x y (((n : Nat) : Int) - 1) [.e 1] := by
  have e0 : pwS x (y / 2 ^ n) = 1 := by rw [h]; rfl
  simp only [powSI, powSJ, e0]
def powSZ (x : Fin Rr) (y : Nat) (o : Fin Rr) : LState := { n := 23, sl := [(4, .p 2 0), (5, .p 4 0)], hp := [(0, .own [.e x] 41), (1, .own [.n 4 y] 41), (2, .own [.c (.int .u64 0), .c (.int .u64 0), .c (.int .u64 0), .c (.int .u64 0)] 41), (4, .own [.e o] 41)] }
theorem powS_1 (x : Fin Rr) (y : Nat) (i : Nat) (hi : i < 256) (hb : y / 2 ^ i % 2 = 1) : Sound Try.prog 0 false (loopB Try.f65 0) (powSI x y (i + 1)).aa .normal (powSI x y i).aa := by
  have hs := roundR_sound (P := Try.prog) (X := rules0) (env := [eMulSr, eBitS]) ⟨eMulSr_ok, eBitS_ok, trivial⟩ (n := 0) (os := oL [(31, wO 1), (39, wO 1)]) (fb := 0) (rd := false) (c := loopB Try.f65 0) (k := 30) (I := powSI x y (i + 1)) (sk := [2, 3, 4, 5, 6]) (hk := [0, 1, 2, 4]) (ex := .normal)
    (L := powSJ x y (IntKind.i64.wrap ((((i + 1 : Nat) : Int) - 1) - 1)) [.e ((pwS x (y / 2 ^ (i + 1)) * pwS x (y / 2 ^ (i + 1))) * x)]) (by kernel_rfl) (And.intro (show decide ((y / 2 ^ (((i + 1 : Nat) : Int) - 1).toNat % 2) % 18446744073709551616 = 1) = true from by rw [show (((i + 1 : Nat) : Int) - 1).toNat = i by omega, hb]; rfl) (And.intro (show 0 ≤ (((i + 1 : Nat) : Int) - 1) ∧ (((i + 1 : Nat) : Int) - 1) < 256 from by omega) (And.intro (show decide ((((i + 1 : Nat) : Int) - 1) ≥ 0) = true from decide_eq_true (by omega)) trivial)))
  have e1 : IntKind.i64.wrap ((((i + 1 : Nat) : Int) - 1) - 1) = ((i : Nat) : Int) - 1 := by rw [wrap_i64]; omega
  have e2 : (pwS x (y / 2 ^ (i + 1)) * pwS x (y / 2 ^ (i + 1))) * x = pwS x (y / 2 ^ i) := by
    rw [half_step y i, hb]
    exact (congrArg (· * x) (GS.pw_dbl x (y / 2 ^ (i + 1))).symm)
  rw [e1, e2] at hs
  exact hs
theorem powS_0 (x : Fin Rr) (y : Nat) (i : Nat) (hi : i < 256) (hb : y / 2 ^ i % 2 = 0) : Sound Try.prog 0 false (loopB Try.f65 0) (powSI x y (i + 1)).aa .normal (powSI x y i).aa := by
  have hs := roundR_sound (P := Try.prog) (X := rules0) (env := [eMulSr, eBitS]) ⟨eMulSr_ok, eBitS_ok, trivial⟩ (n := 0) (os := oL [(31, wO 1), (39, wO 2)]) (fb := 0) (rd := false) (c := loopB Try.f65 0) (k := 30) (I := powSI x y (i + 1)) (sk := [2, 3, 4, 5, 6]) (hk := [0, 1, 2, 4]) (ex := .normal)
    (L := powSJ x y (IntKind.i64.wrap ((((i + 1 : Nat) : Int) - 1) - 1)) [.e ((pwS x (y / 2 ^ (i + 1)) * pwS x (y / 2 ^ (i + 1))))]) (by kernel_rfl) (And.intro (show decide ((y / 2 ^ (((i + 1 : Nat) : Int) - 1).toNat % 2) % 18446744073709551616 = 1) = false from by rw [show (((i + 1 : Nat) : Int) - 1).toNat = i by omega, hb]; rfl) (And.intro (show 0 ≤ (((i + 1 : Nat) : Int) - 1) ∧ (((i + 1 : Nat) : Int) - 1) < 256 from by omega) (And.intro (show decide ((((i + 1 : Nat) : Int) - 1) ≥ 0) = true from decide_eq_true (by omega)) trivial)))
  have e1 : IntKind.i64.wrap ((((i + 1 : Nat) : Int) - 1) - 1) = ((i : Nat) : Int) - 1 := by rw [wrap_i64]; omega
  have e2 : (pwS x (y / 2 ^ (i + 1)) * pwS x (y / 2 ^ (i + 1))) = pwS x (y / 2 ^ i) := by
    rw [half_step y i, hb]
    exact (GS.pw_dbl x (y / 2 ^ (i + 1))).symm
  rw [e1, e2] at hs
  exact hs
theorem powS_end (x : Fin Rr) (y : Nat) : Sound Try.prog 0 false (loopB Try.f65 0) (powSI x y 0).aa (.exit 0) (powSZ x y (pwS x (y / 2 ^ 0))).aa :=
  roundR_sound (P := Try.prog) (X := rules0) (env := []) trivial (n := 0) (os := oL [(31, wO 2)]) (fb := 0) (rd := false) (c := loopB Try.f65 0) (k := 30) (I := powSI x y 0) (sk := [4, 5]) (hk := [0, 1, 2, 4]) (ex := .exit 0) (L := powSZ x y (pwS x (y / 2 ^ 0))) (by kernel_rfl) (And.intro (show decide ((((0 : Nat) : Int) - 1) ≥ 0) = false from by decide) trivial)
theorem powS_loop (x : Fin Rr) (y : Nat) (k : { i : Nat // i ≤ 256 }) : Sound Try.prog 0 false (.loop (loopB Try.f65 0)) (powSI x y k.val).aa (.exit 0) (powSZ x y (pwS x y)).aa := by
  refine loop_ok (m := fun k : { i : Nat // i ≤ 256 } => k.val) (fun k => powSI x y k.val) (by simp) (fun k => ?_) k
  obtain ⟨i, hi⟩ := k
  cases i with
  | zero =>
    have h := powS_end x y
    rw [Nat.pow_zero, Nat.div_one] at h
    exact .inr h
  | succ i =>
    refine .inl ⟨⟨i, by omega⟩, Nat.lt_succ_self i, ?_⟩
    rcases Nat.mod_two_eq_zero_or_one (y / 2 ^ i) with hb | hb
    · exact powS_0 x y i (by omega) hb
    · exact powS_1 x y i (by omega) hb
theorem powS_gives (x : Fin Rr) (y : Nat) (hy : y < 18446744073709551616 ^ 4) : Gives Try.prog 65 [.t (.ag [.e x]), .t (.ag [.n 4 y])] (.ag [.e (pwS x y)]) :=
  fn_gives (P := Try.prog) (env := []) trivial Try.func65 0 (oL [(7, lpO { I := powSJ x y 255 [.c (.int .u64 1), .c (.int .u64 0), .c (.int .u64 0), .c (.int .u64 0)], ex := .exit 0, E := powSZ x y (pwS x y), fr := 8 })]) (by kernel_rfl)
    (And.intro (show some (powSJ x y 255 [.c (.int .u64 1), .c (.int .u64 0), .c (.int .u64 0), .c (.int .u64 0)]) = some (powSJ x y 255 [.c (.int .u64 1), .c (.int .u64 0), .c (.int .u64 0), .c (.int .u64 0)]) from rfl) (And.intro (show Sound Try.prog 0 false (.loop (loopB Try.f65 0)) (powSJ x y 255 [.c (.int .u64 1), .c (.int .u64 0), .c (.int .u64 0), .c (.int .u64 0)]).aa (.exit 0) (powSZ x y (pwS x y)).aa from by
      have hl := powS_loop x y ⟨256, Nat.le_refl _⟩
      rw [show (Subtype.val (p := fun i => i ≤ 256) ⟨256, Nat.le_refl _⟩) = 256 from rfl, powS_first x y 256 (Nat.div_eq_of_lt (Nat.lt_of_lt_of_le hy (by decide +kernel)))] at hl
      refine Sound.pre (J := powSJ x y (((256 : Nat) : Int) - 1) [.e 1]) hl [] (by kernel_rfl) ⟨And.intro (And.intro rfl rfl) (And.intro (And.intro rfl rfl) (And.intro (And.intro rfl rfl) (And.intro (And.intro rfl rfl) (And.intro (show Value.int .i64 255 = Value.int .i64 (((256 : Nat) : Int) - 1) from rfl) trivial)))), And.intro (And.intro rfl rfl) (And.intro (And.intro rfl rfl) (And.intro (And.intro rfl rfl) (And.intro (And.intro rfl (show flat [.c (.int .u64 1), .c (.int .u64 0), .c (.int .u64 0), .c (.int .u64 0)] = flat [.e 1] from by kernel_rfl)) trivial)))⟩) trivial))
def ePowSr : Entry := entry2 65 parE.x parN4.x (fun x y => [(some (y < 18446744073709551616 ^ 4), .ag [.e (pwS x y)])])
theorem ePowSr_ok : ePowSr.OK Try.prog := entry2_ok (fun args w => Go.Proofs.enters_of (P := Try.prog) Try.func65 (by kernel_rfl) rfl args w) (fun x y => onlyIf (fun h => powS_gives x y h))
end Go.Proofs.Ytoigbjimhcgolaa
