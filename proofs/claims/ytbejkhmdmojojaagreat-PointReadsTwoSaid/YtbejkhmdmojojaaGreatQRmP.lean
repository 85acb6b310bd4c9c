/- Pruned: RmP. -/
import Derived.Test.YtbejkhmdmojojaaGreatQRbP
import Derived.Test.YtbejkhmdmojojaaGreatQPwn
import Derived.Test.YtbejkhmdmojojaaGreatQRul
set_option linter.unusedSimpArgs false
set_option linter.unusedVariables false
namespace Go.Proofs.YtbejkhmdmojojaaGreat
open Go.Ev Go.RowKit

theorem bitP (a i : Nat) (hi : i < 384) : Gives Tryz.prog 64 [.t (.ag [.n 6 a]), .t (.v (.int .i64 ((i : Nat) : Int)))] (.u (a / 2 ^ i % 2)) := by
  have h := fn_gives_at (P := Tryz.prog) (X := rulesQ _) (env := []) trivial Tryz.func64 1 (oL [(4, rO 2 (i / 64)), (5, rO 3 0), (9, rO 4 (i % 64))]) (args := [.t (.ag [.n 6 a]), .t (.v (.int .i64 ((i : Nat) : Int)))]) (r := .u (a / 18446744073709551616 ^ (0 + i / 64 * 1) % 18446744073709551616 / 2 ^ (i % 64) % 18446744073709551616 % 2)) (by kernel_rfl) ⟨_, rfl⟩ (And.intro (show IntKind.u64.wrap (((i : Nat) : Int).tmod 64) = ((i % 64 : Nat) : Int) ∧ i % 64 < 64 from ⟨by rw [tmod64, wrap_u64]; omega, Nat.mod_lt _ (by decide)⟩) (And.intro (show 0 + i / 64 * 1 < 6 from by omega) (And.intro (show IntKind.i64.wrap (((i : Nat) : Int).tdiv 64) = ((i / 64 : Nat) : Int) ∧ i / 64 < 6 from ⟨tdiv64 i (by omega), by omega⟩) trivial)))
  rw [show a / 18446744073709551616 ^ (0 + i / 64 * 1) % 18446744073709551616 / 2 ^ (i % 64) % 18446744073709551616 % 2 = a / 2 ^ i % 2 from by rw [Nat.zero_add, Nat.mul_one, Nat.mod_mod_of_dvd _ (by decide), bit_at _ _ _ (Nat.mod_lt _ (by decide)), show 64 * (i / 64) + i % 64 = i by omega]] at h
  exact h
def eBitP : Entry := entry2 64 parN6.x (XPar.int .i64) (fun a z => [(some (0 ≤ z ∧ z < 384), .u (a / 2 ^ z.toNat % 2))])
theorem eBitP_ok : eBitP.OK Tryz.prog := entry2_ok (fun args w => Go.Proofs.enters_of (P := Tryz.prog) Tryz.func64 (by kernel_rfl) rfl args w) (fun a z => onlyIf (fun h => by
  obtain ⟨i, rfl⟩ : ∃ i : Nat, z = ((i : Nat) : Int) := ⟨z.toNat, by omega⟩
  exact bitP a i (by omega)))
theorem ofP_two (m b : Nat) (hb : b = 0 ∨ b = 1) (y : Fin Pp) : ofP (2 * m + b) * y = (if b = 1 then ofP m * y + ofP m * y + y else ofP m * y + ofP m * y) := by
  have e : ofP (2 * m + b) = ofP m + ofP m + ofP b := Fin.ext (by
    rw [Fin.val_add, Fin.val_add]
    show (2 * m + b) % 4002409555221667393417789825735904156556882819939007885332058136124031650490837864442687629129015664037894272559787 = ((m % 4002409555221667393417789825735904156556882819939007885332058136124031650490837864442687629129015664037894272559787 + m % 4002409555221667393417789825735904156556882819939007885332058136124031650490837864442687629129015664037894272559787) % 4002409555221667393417789825735904156556882819939007885332058136124031650490837864442687629129015664037894272559787 + b % 4002409555221667393417789825735904156556882819939007885332058136124031650490837864442687629129015664037894272559787) % 4002409555221667393417789825735904156556882819939007885332058136124031650490837864442687629129015664037894272559787
    omega)
  have e0 : ofP 0 = 0 := by decide
  have e1 : ofP 1 = 1 := by decide
  rcases hb with rfl | rfl
  · rw [e, e0, if_neg (by decide)]; grind
  · rw [e, e1, if_pos rfl]; grind
def mulPI (x y : Fin Pp) (i : Nat) : LState := { n := 23, sl := [(2, .p 0 0), (3, .p 1 0), (4, .p 2 0), (5, .p 4 0), (6, .v (.int .i64 (((i : Nat) : Int) - 1)))], hp := [(0, .own [.q x] 24), (1, .own [.q y] 24), (2, .own [.c (.int .u64 0), .c (.int .u64 0), .c (.int .u64 0), .c (.int .u64 0), .c (.int .u64 0), .c (.int .u64 0)] 24), (4, .own [.q (ofP (x.val / 2 ^ i) * y)] 24)] }
def mulPJ (x y : Fin Pp) (z : Int) (o : List Ch) : LState := { n := 23, sl := [(2, .p 0 0), (3, .p 1 0), (4, .p 2 0), (5, .p 4 0), (6, .v (.int .i64 (z)))], hp := [(0, .own [.q x] 24), (1, .own [.q y] 24), (2, .own [.c (.int .u64 0), .c (.int .u64 0), .c (.int .u64 0), .c (.int .u64 0), .c (.int .u64 0), .c (.int .u64 0)] 24), (4, .own o 24)] }
theorem mulP_first (x y : Fin Pp) (n : Nat) (h : x.val / 2 ^ n = 0) : mulPI x y n = mulPJ x y (((n : Nat) : Int) - 1) [.q 0] := by
  have e0 : ofP (x.val / 2 ^ n) * y = 0 := by rw [h, show ofP 0 = 0 from by decide]; grind
  simp only [mulPI, mulPJ, e0]
def mulPZ (x y : Fin Pp) (o : Fin Pp) : LState := { n := 23, sl := [(4, .p 2 0), (5, .p 4 0)], hp := [(0, .own [.q x] 24), (1, .own [.q y] 24), (2, .own [.c (.int .u64 0), .c (.int .u64 0), .c (.int .u64 0), .c (.int .u64 0), .c (.int .u64 0), .c (.int .u64 0)] 24), (4, .own [.q o] 24)] }
theorem mulP_1 (x y : Fin Pp) (i : Nat) (hi : i < 381) (hb : x.val / 2 ^ i % 2 = 1) : Sound Tryz.prog 0 false (loopB Tryz.f34 0) (mulPI x y (i + 1)).aa .normal (mulPI x y i).aa := by
  have hs := roundR_sound (P := Tryz.prog) (X := rules0) (env := [eAddP, eBitP]) ⟨eAddP_ok, eBitP_ok, trivial⟩ (n := 0) (os := oL [(31, wO 1), (39, wO 1)]) (fb := 0) (rd := false) (c := loopB Tryz.f34 0) (k := 30) (I := mulPI x y (i + 1)) (sk := [2, 3, 4, 5, 6]) (hk := [0, 1, 2, 4]) (ex := .normal)
    (L := mulPJ x y (IntKind.i64.wrap ((((i + 1 : Nat) : Int) - 1) - 1)) [.q ((ofP (x.val / 2 ^ (i + 1)) * y + ofP (x.val / 2 ^ (i + 1)) * y) + y)]) (by kernel_rfl) (And.intro (show decide ((x.val / 2 ^ (((i + 1 : Nat) : Int) - 1).toNat % 2) % 18446744073709551616 = 1) = true from by rw [show (((i + 1 : Nat) : Int) - 1).toNat = i by omega, hb]; rfl) (And.intro (show 0 ≤ (((i + 1 : Nat) : Int) - 1) ∧ (((i + 1 : Nat) : Int) - 1) < 384 from by omega) (And.intro (show decide ((((i + 1 : Nat) : Int) - 1) ≥ 0) = true from decide_eq_true (by omega)) trivial)))
  have e1 : IntKind.i64.wrap ((((i + 1 : Nat) : Int) - 1) - 1) = ((i : Nat) : Int) - 1 := by rw [wrap_i64]; omega
  have e2 : (ofP (x.val / 2 ^ (i + 1)) * y + ofP (x.val / 2 ^ (i + 1)) * y) + y = ofP (x.val / 2 ^ i) * y := by
    rw [half_step x.val i, hb]
    rw [ofP_two _ _ (by decide)]; rfl
  rw [e1, e2] at hs
  exact hs
theorem mulP_0 (x y : Fin Pp) (i : Nat) (hi : i < 381) (hb : x.val / 2 ^ i % 2 = 0) : Sound Tryz.prog 0 false (loopB Tryz.f34 0) (mulPI x y (i + 1)).aa .normal (mulPI x y i).aa := by
  have hs := roundR_sound (P := Tryz.prog) (X := rules0) (env := [eAddP, eBitP]) ⟨eAddP_ok, eBitP_ok, trivial⟩ (n := 0) (os := oL [(31, wO 1), (39, wO 2)]) (fb := 0) (rd := false) (c := loopB Tryz.f34 0) (k := 30) (I := mulPI x y (i + 1)) (sk := [2, 3, 4, 5, 6]) (hk := [0, 1, 2, 4]) (ex := .normal)
    (L := mulPJ x y (IntKind.i64.wrap ((((i + 1 : Nat) : Int) - 1) - 1)) [.q ((ofP (x.val / 2 ^ (i + 1)) * y + ofP (x.val / 2 ^ (i + 1)) * y))]) (by kernel_rfl) (And.intro (show decide ((x.val / 2 ^ (((i + 1 : Nat) : Int) - 1).toNat % 2) % 18446744073709551616 = 1) = false from by rw [show (((i + 1 : Nat) : Int) - 1).toNat = i by omega, hb]; rfl) (And.intro (show 0 ≤ (((i + 1 : Nat) : Int) - 1) ∧ (((i + 1 : Nat) : Int) - 1) < 384 from by omega) (And.intro (show decide ((((i + 1 : Nat) : Int) - 1) ≥ 0) = true from decide_eq_true (by omega)) trivial)))
  have e1 : IntKind.i64.wrap ((((i + 1 : Nat) : Int) - 1) - 1) = ((i : Nat) : Int) - 1 := by rw [wrap_i64]; omega
  have e2 : (ofP (x.val / 2 ^ (i + 1)) * y + ofP (x.val / 2 ^ (i + 1)) * y) = ofP (x.val / 2 ^ i) * y := by
    rw [half_step x.val i, hb]
    rw [ofP_two _ _ (by decide)]; rfl
  rw [e1, e2] at hs
  exact hs
theorem mulP_end (x y : Fin Pp) : Sound Tryz.prog 0 false (loopB Tryz.f34 0) (mulPI x y 0).aa (.exit 0) (mulPZ x y (ofP (x.val / 2 ^ 0) * y)).aa :=
  roundR_sound (P := Tryz.prog) (X := rules0) (env := []) trivial (n := 0) (os := oL [(31, wO 2)]) (fb := 0) (rd := false) (c := loopB Tryz.f34 0) (k := 30) (I := mulPI x y 0) (sk := [4, 5]) (hk := [0, 1, 2, 4]) (ex := .exit 0) (L := mulPZ x y (ofP (x.val / 2 ^ 0) * y)) (by kernel_rfl) (And.intro (show decide ((((0 : Nat) : Int) - 1) ≥ 0) = false from by decide) trivial)
theorem mulP_loop (x y : Fin Pp) (k : { i : Nat // i ≤ 381 }) : Sound Tryz.prog 0 false (.loop (loopB Tryz.f34 0)) (mulPI x y k.val).aa (.exit 0) (mulPZ x y (x * y)).aa := by
  refine loop_ok (m := fun k : { i : Nat // i ≤ 381 } => k.val) (fun k => mulPI x y k.val) (by simp) (fun k => ?_) k
  obtain ⟨i, hi⟩ := k
  cases i with
  | zero =>
    have h := mulP_end x y
    rw [Nat.pow_zero, Nat.div_one, ofP_val] at h
    exact .inr h
  | succ i =>
    refine .inl ⟨⟨i, by omega⟩, Nat.lt_succ_self i, ?_⟩
    rcases Nat.mod_two_eq_zero_or_one (x.val / 2 ^ i) with hb | hb
    · exact mulP_0 x y i (by omega) hb
    · exact mulP_1 x y i (by omega) hb
theorem mulP_gives (x y : Fin Pp)  : Gives Tryz.prog 34 [.t (.ag [.q x]), .t (.ag [.q y])] (.ag [.q (x * y)]) :=
  fn_gives (P := Tryz.prog) (env := []) trivial Tryz.func34 0 (oL [(7, lpO { I := mulPJ x y 380 [.c (.int .u64 0), .c (.int .u64 0), .c (.int .u64 0), .c (.int .u64 0), .c (.int .u64 0), .c (.int .u64 0)], ex := .exit 0, E := mulPZ x y (x * y), fr := 8 })]) (by kernel_rfl)
    (And.intro (show some (mulPJ x y 380 [.c (.int .u64 0), .c (.int .u64 0), .c (.int .u64 0), .c (.int .u64 0), .c (.int .u64 0), .c (.int .u64 0)]) = some (mulPJ x y 380 [.c (.int .u64 0), .c (.int .u64 0), .c (.int .u64 0), .c (.int .u64 0), .c (.int .u64 0), .c (.int .u64 0)]) from rfl) (And.intro (show Sound Tryz.prog 0 false (.loop (loopB Tryz.f34 0)) (mulPJ x y 380 [.c (.int .u64 0), .c (.int .u64 0), .c (.int .u64 0), .c (.int .u64 0), .c (.int .u64 0), .c (.int .u64 0)]).aa (.exit 0) (mulPZ x y (x * y)).aa from by
      have hx := x.isLt
      simp only [Pp] at hx
      have hl := mulP_loop x y ⟨381, Nat.le_refl _⟩
      rw [show (Subtype.val (p := fun i => i ≤ 381) ⟨381, Nat.le_refl _⟩) = 381 from rfl, mulP_first x y 381 (Nat.div_eq_of_lt (Nat.lt_trans hx (by decide +kernel)))] at hl
      refine Sound.pre (J := mulPJ x y (((381 : Nat) : Int) - 1) [.q 0]) hl [] (by kernel_rfl) ⟨And.intro (And.intro rfl rfl) (And.intro (And.intro rfl rfl) (And.intro (And.intro rfl rfl) (And.intro (And.intro rfl rfl) (And.intro (show Value.int .i64 380 = Value.int .i64 (((381 : Nat) : Int) - 1) from rfl) trivial)))), And.intro (And.intro rfl rfl) (And.intro (And.intro rfl rfl) (And.intro (And.intro rfl rfl) (And.intro (And.intro rfl (show flat [.c (.int .u64 0), .c (.int .u64 0), .c (.int .u64 0), .c (.int .u64 0), .c (.int .u64 0), .c (.int .u64 0)] = flat [.q 0] from by kernel_rfl)) trivial)))⟩) trivial))
def eMulPr : Entry := entry2 34 parQ.x parQ.x (fun x y => [(none, .ag [.q (x * y)])])
theorem eMulPr_ok : eMulPr.OK Tryz.prog := entry2_ok (fun args w => Go.Proofs.enters_of (P := Tryz.prog) Tryz.func34 (by kernel_rfl) rfl args w) (fun x y => only (mulP_gives x y))
def powPI (x : Fin Pp) (y : Nat) (i : Nat) : LState := { n := 23, sl := [(2, .p 0 0), (3, .p 1 0), (4, .p 2 0), (5, .p 4 0), (6, .v (.int .i64 (((i : Nat) : Int) - 1)))], hp := [(0, .own [.q x] 24), (1, .own [.n 6 y] 24), (2, .own [.c (.int .u64 0), .c (.int .u64 0), .c (.int .u64 0), .c (.int .u64 0), .c (.int .u64 0), .c (.int .u64 0)] 24), (4, .own [.q (pwP x (y / 2 ^ i))] 24)] }
def powPJ (x : Fin Pp) (y : Nat) (z : Int) (o : List Ch) : LState := { n := 23, sl := [(2, .p 0 0), (3, .p 1 0), (4, .p 2 0), (5, .p 4 0), (6, .v (.int .i64 (z)))], hp := [(0, .own [.q x] 24), (1, .own [.n 6 y] 24), (2, .own [.c (.int .u64 0), .c (.int .u64 0), .c (.int .u64 0), .c (.int .u64 0), .c (.int .u64 0), .c (.int .u64 0)] 24), (4, .own o 24)] }
theorem powP_first (x : Fin Pp) (y : Nat) (n : Nat) (h : y / 2 ^ n = 0) : powPI x y n = powPJ x y (((n : Nat) : Int) - 1) [.q 1] := by
  have e0 : pwP x (y / 2 ^ n) = 1 := by rw [h]; rfl
  simp only [powPI, powPJ, e0]
def powPZ (x : Fin Pp) (y : Nat) (o : Fin Pp) : LState := { n := 23, sl := [(4, .p 2 0), (5, .p 4 0)], hp := [(0, .own [.q x] 24), (1, .own [.n 6 y] 24), (2, .own [.c (.int .u64 0), .c (.int .u64 0), .c (.int .u64 0), .c (.int .u64 0), .c (.int .u64 0), .c (.int .u64 0)] 24), (4, .own [.q o] 24)] }
theorem powP_1 (x : Fin Pp) (y : Nat) (i : Nat) (hi : i < 384) (hb : y / 2 ^ i % 2 = 1) : Sound Tryz.prog 0 false (loopB Tryz.f65 0) (powPI x y (i + 1)).aa .normal (powPI x y i).aa := by
  have hs := roundR_sound (P := Tryz.prog) (X := rules0) (env := [eMulPr, eBitP]) ⟨eMulPr_ok, eBitP_ok, trivial⟩ (n := 0) (os := oL [(31, wO 1), (39, wO 1)]) (fb := 0) (rd := false) (c := loopB Tryz.f65 0) (k := 30) (I := powPI x y (i + 1)) (sk := [2, 3, 4, 5, 6]) (hk := [0, 1, 2, 4]) (ex := .normal)
    (L := powPJ x y (IntKind.i64.wrap ((((i + 1 : Nat) : Int) - 1) - 1)) [.q ((pwP x (y / 2 ^ (i + 1)) * pwP x (y / 2 ^ (i + 1))) * x)]) (by kernel_rfl) (And.intro (show decide ((y / 2 ^ (((i + 1 : Nat) : Int) - 1).toNat % 2) % 18446744073709551616 = 1) = true from by rw [show (((i + 1 : Nat) : Int) - 1).toNat = i by omega, hb]; rfl) (And.intro (show 0 ≤ (((i + 1 : Nat) : Int) - 1) ∧ (((i + 1 : Nat) : Int) - 1) < 384 from by omega) (And.intro (show decide ((((i + 1 : Nat) : Int) - 1) ≥ 0) = true from decide_eq_true (by omega)) trivial)))
  have e1 : IntKind.i64.wrap ((((i + 1 : Nat) : Int) - 1) - 1) = ((i : Nat) : Int) - 1 := by rw [wrap_i64]; omega
  have e2 : (pwP x (y / 2 ^ (i + 1)) * pwP x (y / 2 ^ (i + 1))) * x = pwP x (y / 2 ^ i) := by
    rw [half_step y i, hb]
    exact (congrArg (· * x) (GP.pw_dbl x (y / 2 ^ (i + 1))).symm)
  rw [e1, e2] at hs
  exact hs
theorem powP_0 (x : Fin Pp) (y : Nat) (i : Nat) (hi : i < 384) (hb : y / 2 ^ i % 2 = 0) : Sound Tryz.prog 0 false (loopB Tryz.f65 0) (powPI x y (i + 1)).aa .normal (powPI x y i).aa := by
  have hs := roundR_sound (P := Tryz.prog) (X := rules0) (env := [eMulPr, eBitP]) ⟨eMulPr_ok, eBitP_ok, trivial⟩ (n := 0) (os := oL [(31, wO 1), (39, wO 2)]) (fb := 0) (rd := false) (c := loopB Tryz.f65 0) (k := 30) (I := powPI x y (i + 1)) (sk := [2, 3, 4, 5, 6]) (hk := [0, 1, 2, 4]) (ex := .normal)
    (L := powPJ x y (IntKind.i64.wrap ((((i + 1 : Nat) : Int) - 1) - 1)) [.q ((pwP x (y / 2 ^ (i + 1)) * pwP x (y / 2 ^ (i + 1))))]) (by kernel_rfl) (And.intro (show decide ((y / 2 ^ (((i + 1 : Nat) : Int) - 1).toNat % 2) % 18446744073709551616 = 1) = false from by rw [show (((i + 1 : Nat) : Int) - 1).toNat = i by omega, hb]; rfl) (And.intro (show 0 ≤ (((i + 1 : Nat) : Int) - 1) ∧ (((i + 1 : Nat) : Int) - 1) < 384 from by omega) (And.intro (show decide ((((i + 1 : Nat) : Int) - 1) ≥ 0) = true from decide_eq_true (by omega)) trivial)))
  have e1 : IntKind.i64.wrap ((((i + 1 : Nat) : Int) - 1) - 1) = ((i : Nat) : Int) - 1 := by rw [wrap_i64]; omega
  have e2 : (pwP x (y / 2 ^ (i + 1)) * pwP x (y / 2 ^ (i + 1))) = pwP x (y / 2 ^ i) := by
    rw [half_step y i, hb]
    exact (GP.pw_dbl x (y / 2 ^ (i + 1))).symm
  rw [e1, e2] at hs
  exact hs
theorem powP_end (x : Fin Pp) (y : Nat) : Sound Tryz.prog 0 false (loopB Tryz.f65 0) (powPI x y 0).aa (.exit 0) (powPZ x y (pwP x (y / 2 ^ 0))).aa :=
  roundR_sound (P := Tryz.prog) (X := rules0) (env := []) trivial (n := 0) (os := oL [(31, wO 2)]) (fb := 0) (rd := false) (c := loopB Tryz.f65 0) (k := 30) (I := powPI x y 0) (sk := [4, 5]) (hk := [0, 1, 2, 4]) (ex := .exit 0) (L := powPZ x y (pwP x (y / 2 ^ 0))) (by kernel_rfl) (And.intro (show decide ((((0 : Nat) : Int) - 1) ≥ 0) = false from by decide) trivial)
theorem powP_loop (x : Fin Pp) (y : Nat) (k : { i : Nat // i ≤ 384 }) : Sound Tryz.prog 0 false (.loop (loopB Tryz.f65 0)) (powPI x y k.val).aa (.exit 0) (powPZ x y (pwP x y)).aa := by
  refine loop_ok (m := fun k : { i : Nat // i ≤ 384 } => k.val) (fun k => powPI x y k.val) (by simp) (fun k => ?_) k
  obtain ⟨i, hi⟩ := k
  cases i with
  | zero =>
    have h := powP_end x y
    rw [Nat.pow_zero, Nat.div_one] at h
    exact .inr h
  | succ i =>
    refine .inl ⟨⟨i, by omega⟩, Nat.lt_succ_self i, ?_⟩
    rcases Nat.mod_two_eq_zero_or_one (y / 2 ^ i) with hb | hb
    · exact powP_0 x y i (by omega) hb
    · exact powP_1 x y i (by omega) hb
theorem powP_gives (x : Fin Pp) (y : Nat) (hy : y < 18446744073709551616 ^ 6) : Gives Tryz.prog 65 [.t (.ag [.q x]), .t (.ag [.n 6 y])] (.ag [.q (pwP x y)]) :=
  fn_gives (P := Tryz.prog) (env := []) trivial Tryz.func65 0 (oL [(7, lpO { I := powPJ x y 383 [.c (.int .u64 1), .c (.int .u64 0), .c (.int .u64 0), .c (.int .u64 0), .c (.int .u64 0), .c (.int .u64 0)], ex := .exit 0, E := powPZ x y (pwP x y), fr := 8 })]) (by kernel_rfl)
    (And.intro (show some (powPJ x y 383 [.c (.int .u64 1), .c (.int .u64 0), .c (.int .u64 0), .c (.int .u64 0), .c (.int .u64 0), .c (.int .u64 0)]) = some (powPJ x y 383 [.c (.int .u64 1), .c (.int .u64 0), .c (.int .u64 0), .c (.int .u64 0), .c (.int .u64 0), .c (.int .u64 0)]) from rfl) (And.intro (show Sound Tryz.prog 0 false (.loop (loopB Tryz.f65 0)) (powPJ x y 383 [.c (.int .u64 1), .c (.int .u64 0), .c (.int .u64 0), .c (.int .u64 0), .c (.int .u64 0), .c (.int .u64 0)]).aa (.exit 0) (powPZ x y (pwP x y)).aa from by
      have hl := powP_loop x y ⟨384, Nat.le_refl _⟩
      rw [show (Subtype.val (p := fun i => i ≤ 384) ⟨384, Nat.le_refl _⟩) = 384 from rfl, powP_first x y 384 (Nat.div_eq_of_lt (Nat.lt_of_lt_of_le hy (by decide +kernel)))] at hl
      refine Sound.pre (J := powPJ x y (((384 : Nat) : Int) - 1) [.q 1]) hl [] (by kernel_rfl) ⟨And.intro (And.intro rfl rfl) (And.intro (And.intro rfl rfl) (And.intro (And.intro rfl rfl) (And.intro (And.intro rfl rfl) (And.intro (show Value.int .i64 383 = Value.int .i64 (((384 : Nat) : Int) - 1) from rfl) trivial)))), And.intro (And.intro rfl rfl) (And.intro (And.intro rfl rfl) (And.intro (And.intro rfl rfl) (And.intro (And.intro rfl (show flat [.c (.int .u64 1), .c (.int .u64 0), .c (.int .u64 0), .c (.int .u64 0), .c (.int .u64 0), .c (.int .u64 0)] = flat [.q 1] from by kernel_rfl)) trivial)))⟩) trivial))
def ePowPr : Entry := entry2 65 parQ.x parN6.x (fun x y => [(some (y < 18446744073709551616 ^ 6), .ag [.q (pwP x y)])])
theorem ePowPr_ok : ePowPr.OK Tryz.prog := entry2_ok (fun args w => Go.Proofs.enters_of (P := Tryz.prog) Tryz.func65 (by kernel_rfl) rfl args w) (fun x y => onlyIf (fun h => powP_gives x y h))
end Go.Proofs.YtbejkhmdmojojaaGreat
