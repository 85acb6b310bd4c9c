/- chirographlaw19.SigmaSame says true. -/
import Derived.Test.YtoahfmgdlpgjoaaRcS
import Derived.Test.YtoahfmgdlpgjoaaSm1
set_option linter.unusedSimpArgs false
set_option linter.unusedVariables false
namespace Go.Proofs.Ytoahfmgdlpgjoaa
open Go.Ev Go.RowKit
def eAl19 : Entry := entry0 29 [(none, .v (.bool true))]
theorem eAl19_ok : eAl19.OK Try.prog := entry0_ok (fun args w => Go.Proofs.enters_of (P := Try.prog) Try.func29 (by kernel_rfl) rfl args w) (only (fn_gives (P := Try.prog) (env := [eFSmallS]) ⟨eFSmallS_ok, trivial⟩ Try.func29 2 o0 (r := .v (.bool true)) (by kernel_rfl)
    (And.intro (show flat [.e (ofR (7 : Int).toNat)] = flat [.c (.int .u64 7), .c (.int .u64 0), .c (.int .u64 0), .c (.int .u64 0)] from by kernel_rfl) (And.intro (show (0 : Int) ≤ 7 ∧ (7 : Int) < 9223372036854775808 from by decide) trivial))))
def slA (L : Nat → List (Int × Int)) (M : Nat → List Nat) (b : Bool) (z : Int) : LState := { n := 120, sl := [(2, .p 8 0), (3, .p 9 0), (5, .v (.bool b)), (13, .v (.int .i64 z))], hp := [(0, .rz [.l (plC (L 0))]), (1, .rz [.l (plC (L 1))]), (2, .rz [.l (plC (L 2))]), (4, .rz [.l (numC 4 (M 0))]), (5, .rz [.l (numC 4 (M 1))]), (6, .rz [.l (numC 4 (M 2))]), (8, .own [.sz 0 (L 0).length, .sz 1 (L 1).length, .sz 2 (L 2).length] 46), (9, .own [.sz 4 (M 0).length, .sz 5 (M 1).length, .sz 6 (M 2).length] 47)] }
def slX (L : Nat → List (Int × Int)) (M : Nat → List Nat) (b : Bool) : LState := { n := 120, sl := [(2, .p 8 0), (3, .p 9 0), (5, .v (.bool b))], hp := [(0, .rz [.l (plC (L 0))]), (1, .rz [.l (plC (L 1))]), (2, .rz [.l (plC (L 2))]), (4, .rz [.l (numC 4 (M 0))]), (5, .rz [.l (numC 4 (M 1))]), (6, .rz [.l (numC 4 (M 2))]), (8, .own [.sz 0 (L 0).length, .sz 1 (L 1).length, .sz 2 (L 2).length] 46), (9, .own [.sz 4 (M 0).length, .sz 5 (M 1).length, .sz 6 (M 2).length] 47)] }
def slB (L : Nat → List (Int × Int)) (M : Nat → List Nat) (b : Bool) (z : Int) : LState := { n := 120, sl := [(2, .p 8 0), (3, .p 9 0), (5, .v (.bool b)), (38, .v (.int .i64 z))], hp := [(0, .rz [.l (plC (L 0))]), (1, .rz [.l (plC (L 1))]), (2, .rz [.l (plC (L 2))]), (4, .rz [.l (numC 4 (M 0))]), (5, .rz [.l (numC 4 (M 1))]), (6, .rz [.l (numC 4 (M 2))]), (8, .own [.sz 0 (L 0).length, .sz 1 (L 1).length, .sz 2 (L 2).length] 46), (9, .own [.sz 4 (M 0).length, .sz 5 (M 1).length, .sz 6 (M 2).length] 47)] }
def slC (L : Nat → List (Int × Int)) (M : Nat → List Nat) (b : Bool) (z : Int) : LState := { n := 120, sl := [(2, .p 8 0), (3, .p 9 0), (5, .v (.bool b)), (10, .v (.int .i64 z))], hp := [(0, .rz [.l (plC (L 0))]), (1, .rz [.l (plC (L 1))]), (2, .rz [.l (plC (L 2))]), (4, .rz [.l (numC 4 (M 0))]), (5, .rz [.l (numC 4 (M 1))]), (6, .rz [.l (numC 4 (M 2))]), (8, .own [.sz 0 (L 0).length, .sz 1 (L 1).length, .sz 2 (L 2).length] 46), (9, .own [.sz 4 (M 0).length, .sz 5 (M 1).length, .sz 6 (M 2).length] 47)] }
def slB1 (L : Nat → List (Int × Int)) (M : Nat → List Nat) (b : Bool) (z : Int) : LState := { n := 120, sl := [(2, .p 8 0), (3, .p 9 0), (5, .v (.bool b)), (38, .v (.int .i64 0)), (43, .sz 0 (L 0).length), (44, .v (.int .i64 (((L 0).length : Nat) : Int))), (45, .v (.int .i64 z))], hp := [(0, .rz [.l (plC (L 0))]), (1, .rz [.l (plC (L 1))]), (2, .rz [.l (plC (L 2))]), (4, .rz [.l (numC 4 (M 0))]), (5, .rz [.l (numC 4 (M 1))]), (6, .rz [.l (numC 4 (M 2))]), (8, .own [.sz 0 (L 0).length, .sz 1 (L 1).length, .sz 2 (L 2).length] 46), (9, .own [.sz 4 (M 0).length, .sz 5 (M 1).length, .sz 6 (M 2).length] 47)] }
def slC1 (L : Nat → List (Int × Int)) (M : Nat → List Nat) (b : Bool) (z : Int) : LState := { n := 120, sl := [(2, .p 8 0), (3, .p 9 0), (5, .v (.bool b)), (10, .v (.int .i64 0)), (84, .sz 0 (L 0).length), (85, .v (.int .i64 (((L 0).length : Nat) : Int))), (86, .v (.int .i64 z))], hp := [(0, .rz [.l (plC (L 0))]), (1, .rz [.l (plC (L 1))]), (2, .rz [.l (plC (L 2))]), (4, .rz [.l (numC 4 (M 0))]), (5, .rz [.l (numC 4 (M 1))]), (6, .rz [.l (numC 4 (M 2))]), (8, .own [.sz 0 (L 0).length, .sz 1 (L 1).length, .sz 2 (L 2).length] 46), (9, .own [.sz 4 (M 0).length, .sz 5 (M 1).length, .sz 6 (M 2).length] 47)] }
def slB2 (L : Nat → List (Int × Int)) (M : Nat → List Nat) (b : Bool) (z : Int) : LState := { n := 120, sl := [(2, .p 8 0), (3, .p 9 0), (5, .v (.bool b)), (38, .v (.int .i64 1)), (43, .sz 1 (L 1).length), (44, .v (.int .i64 (((L 1).length : Nat) : Int))), (45, .v (.int .i64 z))], hp := [(0, .rz [.l (plC (L 0))]), (1, .rz [.l (plC (L 1))]), (2, .rz [.l (plC (L 2))]), (4, .rz [.l (numC 4 (M 0))]), (5, .rz [.l (numC 4 (M 1))]), (6, .rz [.l (numC 4 (M 2))]), (8, .own [.sz 0 (L 0).length, .sz 1 (L 1).length, .sz 2 (L 2).length] 46), (9, .own [.sz 4 (M 0).length, .sz 5 (M 1).length, .sz 6 (M 2).length] 47)] }
def slC2 (L : Nat → List (Int × Int)) (M : Nat → List Nat) (b : Bool) (z : Int) : LState := { n := 120, sl := [(2, .p 8 0), (3, .p 9 0), (5, .v (.bool b)), (10, .v (.int .i64 1)), (84, .sz 1 (L 1).length), (85, .v (.int .i64 (((L 1).length : Nat) : Int))), (86, .v (.int .i64 z))], hp := [(0, .rz [.l (plC (L 0))]), (1, .rz [.l (plC (L 1))]), (2, .rz [.l (plC (L 2))]), (4, .rz [.l (numC 4 (M 0))]), (5, .rz [.l (numC 4 (M 1))]), (6, .rz [.l (numC 4 (M 2))]), (8, .own [.sz 0 (L 0).length, .sz 1 (L 1).length, .sz 2 (L 2).length] 46), (9, .own [.sz 4 (M 0).length, .sz 5 (M 1).length, .sz 6 (M 2).length] 47)] }
def slB3 (L : Nat → List (Int × Int)) (M : Nat → List Nat) (b : Bool) (z : Int) : LState := { n := 120, sl := [(2, .p 8 0), (3, .p 9 0), (5, .v (.bool b)), (38, .v (.int .i64 2)), (43, .sz 2 (L 2).length), (44, .v (.int .i64 (((L 2).length : Nat) : Int))), (45, .v (.int .i64 z))], hp := [(0, .rz [.l (plC (L 0))]), (1, .rz [.l (plC (L 1))]), (2, .rz [.l (plC (L 2))]), (4, .rz [.l (numC 4 (M 0))]), (5, .rz [.l (numC 4 (M 1))]), (6, .rz [.l (numC 4 (M 2))]), (8, .own [.sz 0 (L 0).length, .sz 1 (L 1).length, .sz 2 (L 2).length] 46), (9, .own [.sz 4 (M 0).length, .sz 5 (M 1).length, .sz 6 (M 2).length] 47)] }
def slC3 (L : Nat → List (Int × Int)) (M : Nat → List Nat) (b : Bool) (z : Int) : LState := { n := 120, sl := [(2, .p 8 0), (3, .p 9 0), (5, .v (.bool b)), (10, .v (.int .i64 2)), (84, .sz 2 (L 2).length), (85, .v (.int .i64 (((L 2).length : Nat) : Int))), (86, .v (.int .i64 z))], hp := [(0, .rz [.l (plC (L 0))]), (1, .rz [.l (plC (L 1))]), (2, .rz [.l (plC (L 2))]), (4, .rz [.l (numC 4 (M 0))]), (5, .rz [.l (numC 4 (M 1))]), (6, .rz [.l (numC 4 (M 2))]), (8, .own [.sz 0 (L 0).length, .sz 1 (L 1).length, .sz 2 (L 2).length] 46), (9, .own [.sz 4 (M 0).length, .sz 5 (M 1).length, .sz 6 (M 2).length] 47)] }
theorem sl0_tt (L : Nat → List (Int × Int)) (M : Nat → List Nat) (h1 : (L 0).length = (L 0).length) (h2 : (M 0).length = (L 0).length) : Sound Try.prog 0 false (loopB Try.f8 0) (slA L M true 0).aa .normal (slA L M true 1).aa := by
  have hh := roundK_sound (P := Try.prog) (X := rulesY _) (env := []) trivial (n := 0) (os := oL [(25, wT), (35, wT)]) (fb := 0) (rd := false) (c := (loopB Try.f8 0)) (k := 13) (I := slA L M true 0) (sk := [2, 3, 5, 13]) (hk := [0, 1, 2, 4, 5, 6, 8, 9]) (lk := []) (ex := .normal)
    (L := slA L M true 1) (by kernel_rfl)
    (And.intro (show ((((M 0).length : Nat) : Int) == (((L 0).length : Nat) : Int)) = true from int_eqT h2)
    (And.intro (show ((((L 0).length : Nat) : Int) == (((L 0).length : Nat) : Int)) = true from int_eqT h1) trivial))
  exact hh
theorem sl0_tf (L : Nat → List (Int × Int)) (M : Nat → List Nat) (h1 : (L 0).length = (L 0).length) (h2 : ¬ (M 0).length = (L 0).length) : Sound Try.prog 0 false (loopB Try.f8 0) (slA L M true 0).aa .normal (slA L M false 1).aa := by
  have hh := roundK_sound (P := Try.prog) (X := rulesY _) (env := []) trivial (n := 0) (os := oL [(25, wT), (35, wF)]) (fb := 0) (rd := false) (c := (loopB Try.f8 0)) (k := 13) (I := slA L M true 0) (sk := [2, 3, 5, 13]) (hk := [0, 1, 2, 4, 5, 6, 8, 9]) (lk := []) (ex := .normal)
    (L := slA L M false 1) (by kernel_rfl)
    (And.intro (show ((((M 0).length : Nat) : Int) == (((L 0).length : Nat) : Int)) = false from int_eqF h2)
    (And.intro (show ((((L 0).length : Nat) : Int) == (((L 0).length : Nat) : Int)) = true from int_eqT h1) trivial))
  exact hh
theorem sl0_f (L : Nat → List (Int × Int)) (M : Nat → List Nat) (h1 : ¬ (L 0).length = (L 0).length) : Sound Try.prog 0 false (loopB Try.f8 0) (slA L M true 0).aa .normal (slA L M false 1).aa := by
  have hh := roundK_sound (P := Try.prog) (X := rulesY _) (env := []) trivial (n := 0) (os := oL [(25, wF)]) (fb := 0) (rd := false) (c := (loopB Try.f8 0)) (k := 13) (I := slA L M true 0) (sk := [2, 3, 5, 13]) (hk := [0, 1, 2, 4, 5, 6, 8, 9]) (lk := []) (ex := .normal)
    (L := slA L M false 1) (by kernel_rfl)
    (And.intro (show ((((L 0).length : Nat) : Int) == (((L 0).length : Nat) : Int)) = false from int_eqF h1) trivial)
  exact hh
theorem sl0_0 (L : Nat → List (Int × Int)) (M : Nat → List Nat) : Sound Try.prog 0 false (loopB Try.f8 0) (slA L M false 0).aa .normal (slA L M false 1).aa := by
  have hh := roundK_sound (P := Try.prog) (X := rulesY _) (env := []) trivial (n := 0) (os := oL []) (fb := 0) (rd := false) (c := (loopB Try.f8 0)) (k := 13) (I := slA L M false 0) (sk := [2, 3, 5, 13]) (hk := [0, 1, 2, 4, 5, 6, 8, 9]) (lk := []) (ex := .normal)
    (L := slA L M false 1) (by kernel_rfl)
    trivial
  exact hh
theorem sl1_tt (L : Nat → List (Int × Int)) (M : Nat → List Nat) (h1 : (L 1).length = (L 0).length) (h2 : (M 1).length = (L 0).length) : Sound Try.prog 0 false (loopB Try.f8 0) (slA L M true 1).aa .normal (slA L M true 2).aa := by
  have hh := roundK_sound (P := Try.prog) (X := rulesY _) (env := []) trivial (n := 0) (os := oL [(25, wT), (35, wT)]) (fb := 0) (rd := false) (c := (loopB Try.f8 0)) (k := 13) (I := slA L M true 1) (sk := [2, 3, 5, 13]) (hk := [0, 1, 2, 4, 5, 6, 8, 9]) (lk := []) (ex := .normal)
    (L := slA L M true 2) (by kernel_rfl)
    (And.intro (show ((((M 1).length : Nat) : Int) == (((L 0).length : Nat) : Int)) = true from int_eqT h2)
    (And.intro (show ((((L 1).length : Nat) : Int) == (((L 0).length : Nat) : Int)) = true from int_eqT h1) trivial))
  exact hh
theorem sl1_tf (L : Nat → List (Int × Int)) (M : Nat → List Nat) (h1 : (L 1).length = (L 0).length) (h2 : ¬ (M 1).length = (L 0).length) : Sound Try.prog 0 false (loopB Try.f8 0) (slA L M true 1).aa .normal (slA L M false 2).aa := by
  have hh := roundK_sound (P := Try.prog) (X := rulesY _) (env := []) trivial (n := 0) (os := oL [(25, wT), (35, wF)]) (fb := 0) (rd := false) (c := (loopB Try.f8 0)) (k := 13) (I := slA L M true 1) (sk := [2, 3, 5, 13]) (hk := [0, 1, 2, 4, 5, 6, 8, 9]) (lk := []) (ex := .normal)
    (L := slA L M false 2) (by kernel_rfl)
    (And.intro (show ((((M 1).length : Nat) : Int) == (((L 0).length : Nat) : Int)) = false from int_eqF h2)
    (And.intro (show ((((L 1).length : Nat) : Int) == (((L 0).length : Nat) : Int)) = true from int_eqT h1) trivial))
  exact hh
theorem sl1_f (L : Nat → List (Int × Int)) (M : Nat → List Nat) (h1 : ¬ (L 1).length = (L 0).length) : Sound Try.prog 0 false (loopB Try.f8 0) (slA L M true 1).aa .normal (slA L M false 2).aa := by
  have hh := roundK_sound (P := Try.prog) (X := rulesY _) (env := []) trivial (n := 0) (os := oL [(25, wF)]) (fb := 0) (rd := false) (c := (loopB Try.f8 0)) (k := 13) (I := slA L M true 1) (sk := [2, 3, 5, 13]) (hk := [0, 1, 2, 4, 5, 6, 8, 9]) (lk := []) (ex := .normal)
    (L := slA L M false 2) (by kernel_rfl)
    (And.intro (show ((((L 1).length : Nat) : Int) == (((L 0).length : Nat) : Int)) = false from int_eqF h1) trivial)
  exact hh
theorem sl1_0 (L : Nat → List (Int × Int)) (M : Nat → List Nat) : Sound Try.prog 0 false (loopB Try.f8 0) (slA L M false 1).aa .normal (slA L M false 2).aa := by
  have hh := roundK_sound (P := Try.prog) (X := rulesY _) (env := []) trivial (n := 0) (os := oL []) (fb := 0) (rd := false) (c := (loopB Try.f8 0)) (k := 13) (I := slA L M false 1) (sk := [2, 3, 5, 13]) (hk := [0, 1, 2, 4, 5, 6, 8, 9]) (lk := []) (ex := .normal)
    (L := slA L M false 2) (by kernel_rfl)
    trivial
  exact hh
theorem sl2_tt (L : Nat → List (Int × Int)) (M : Nat → List Nat) (h1 : (L 2).length = (L 0).length) (h2 : (M 2).length = (L 0).length) : Sound Try.prog 0 false (loopB Try.f8 0) (slA L M true 2).aa .normal (slA L M true 3).aa := by
  have hh := roundK_sound (P := Try.prog) (X := rulesY _) (env := []) trivial (n := 0) (os := oL [(25, wT), (35, wT)]) (fb := 0) (rd := false) (c := (loopB Try.f8 0)) (k := 13) (I := slA L M true 2) (sk := [2, 3, 5, 13]) (hk := [0, 1, 2, 4, 5, 6, 8, 9]) (lk := []) (ex := .normal)
    (L := slA L M true 3) (by kernel_rfl)
    (And.intro (show ((((M 2).length : Nat) : Int) == (((L 0).length : Nat) : Int)) = true from int_eqT h2)
    (And.intro (show ((((L 2).length : Nat) : Int) == (((L 0).length : Nat) : Int)) = true from int_eqT h1) trivial))
  exact hh
theorem sl2_tf (L : Nat → List (Int × Int)) (M : Nat → List Nat) (h1 : (L 2).length = (L 0).length) (h2 : ¬ (M 2).length = (L 0).length) : Sound Try.prog 0 false (loopB Try.f8 0) (slA L M true 2).aa .normal (slA L M false 3).aa := by
  have hh := roundK_sound (P := Try.prog) (X := rulesY _) (env := []) trivial (n := 0) (os := oL [(25, wT), (35, wF)]) (fb := 0) (rd := false) (c := (loopB Try.f8 0)) (k := 13) (I := slA L M true 2) (sk := [2, 3, 5, 13]) (hk := [0, 1, 2, 4, 5, 6, 8, 9]) (lk := []) (ex := .normal)
    (L := slA L M false 3) (by kernel_rfl)
    (And.intro (show ((((M 2).length : Nat) : Int) == (((L 0).length : Nat) : Int)) = false from int_eqF h2)
    (And.intro (show ((((L 2).length : Nat) : Int) == (((L 0).length : Nat) : Int)) = true from int_eqT h1) trivial))
  exact hh
theorem sl2_f (L : Nat → List (Int × Int)) (M : Nat → List Nat) (h1 : ¬ (L 2).length = (L 0).length) : Sound Try.prog 0 false (loopB Try.f8 0) (slA L M true 2).aa .normal (slA L M false 3).aa := by
  have hh := roundK_sound (P := Try.prog) (X := rulesY _) (env := []) trivial (n := 0) (os := oL [(25, wF)]) (fb := 0) (rd := false) (c := (loopB Try.f8 0)) (k := 13) (I := slA L M true 2) (sk := [2, 3, 5, 13]) (hk := [0, 1, 2, 4, 5, 6, 8, 9]) (lk := []) (ex := .normal)
    (L := slA L M false 3) (by kernel_rfl)
    (And.intro (show ((((L 2).length : Nat) : Int) == (((L 0).length : Nat) : Int)) = false from int_eqF h1) trivial)
  exact hh
theorem sl2_0 (L : Nat → List (Int × Int)) (M : Nat → List Nat) : Sound Try.prog 0 false (loopB Try.f8 0) (slA L M false 2).aa .normal (slA L M false 3).aa := by
  have hh := roundK_sound (P := Try.prog) (X := rulesY _) (env := []) trivial (n := 0) (os := oL []) (fb := 0) (rd := false) (c := (loopB Try.f8 0)) (k := 13) (I := slA L M false 2) (sk := [2, 3, 5, 13]) (hk := [0, 1, 2, 4, 5, 6, 8, 9]) (lk := []) (ex := .normal)
    (L := slA L M false 3) (by kernel_rfl)
    trivial
  exact hh
theorem sl_end (L : Nat → List (Int × Int)) (M : Nat → List Nat) (b : Bool) : Sound Try.prog 0 false (loopB Try.f8 0) (slA L M b 3).aa (.exit 0) (slX L M b).aa := by
  have hh := roundK_sound (P := Try.prog) (X := rulesY _) (env := []) trivial (n := 0) (os := oL []) (fb := 0) (rd := false) (c := (loopB Try.f8 0)) (k := 13) (I := slA L M b 3) (sk := [2, 3, 5]) (hk := [0, 1, 2, 4, 5, 6, 8, 9]) (lk := []) (ex := (.exit 0))
    (L := slX L M b) (by kernel_rfl)
    trivial
  exact hh
def lenOK (L : Nat → List (Int × Int)) (M : Nat → List Nat) (w : Nat) : Prop := (L w).length = (L 0).length ∧ (M w).length = (L 0).length
instance (L : Nat → List (Int × Int)) (M : Nat → List Nat) (w : Nat) : Decidable (lenOK L M w) := by unfold lenOK; infer_instance
/-- All of the first ones are so. -/
def preB (p : Nat → Prop) [DecidablePred p] : Nat → Bool
  | 0 => true
  | w + 1 => preB p w && decide (p w)
instance (L : Nat → List (Int × Int)) (M : Nat → List Nat) : DecidablePred (lenOK L M) := fun w => inferInstance
theorem preB_iff (p : Nat → Prop) [DecidablePred p] : ∀ n, preB p n = true ↔ ∀ w, w < n → p w
  | 0 => ⟨fun _ w hw => by omega, fun _ => rfl⟩
  | n + 1 => by
    simp only [preB, Bool.and_eq_true, decide_eq_true_eq, preB_iff p n]
    refine ⟨fun h w hw => ?_, fun h => ⟨fun w hw => h w (by omega), h n (by omega)⟩⟩
    rcases Nat.lt_succ_iff_lt_or_eq.1 hw with hw | rfl
    · exact h.1 w hw
    · exact h.2
theorem sl_round (L : Nat → List (Int × Int)) (M : Nat → List Nat) (b : Bool) (w : Nat) (hw : w < 3) : Sound Try.prog 0 false (loopB Try.f8 0) (slA L M b (w : Int)).aa .normal (slA L M (b && decide (lenOK L M w)) ((w + 1 : Nat) : Int)).aa := by
  match w, hw with
  | 0, _ =>
    cases b with
    | false => exact sl0_0 L M
    | true =>
      by_cases h1 : (L 0).length = (L 0).length
      · by_cases h2 : (M 0).length = (L 0).length
        · rw [show (true && decide (lenOK L M 0)) = true from by rw [Bool.true_and]; exact decide_eq_true ⟨h1, h2⟩]; exact sl0_tt L M h1 h2
        · rw [show (true && decide (lenOK L M 0)) = false from by rw [Bool.true_and]; exact decide_eq_false (fun e => h2 e.2)]; exact sl0_tf L M h1 h2
      · rw [show (true && decide (lenOK L M 0)) = false from by rw [Bool.true_and]; exact decide_eq_false (fun e => h1 e.1)]; exact sl0_f L M h1
  | 1, _ =>
    cases b with
    | false => exact sl1_0 L M
    | true =>
      by_cases h1 : (L 1).length = (L 0).length
      · by_cases h2 : (M 1).length = (L 0).length
        · rw [show (true && decide (lenOK L M 1)) = true from by rw [Bool.true_and]; exact decide_eq_true ⟨h1, h2⟩]; exact sl1_tt L M h1 h2
        · rw [show (true && decide (lenOK L M 1)) = false from by rw [Bool.true_and]; exact decide_eq_false (fun e => h2 e.2)]; exact sl1_tf L M h1 h2
      · rw [show (true && decide (lenOK L M 1)) = false from by rw [Bool.true_and]; exact decide_eq_false (fun e => h1 e.1)]; exact sl1_f L M h1
  | 2, _ =>
    cases b with
    | false => exact sl2_0 L M
    | true =>
      by_cases h1 : (L 2).length = (L 0).length
      · by_cases h2 : (M 2).length = (L 0).length
        · rw [show (true && decide (lenOK L M 2)) = true from by rw [Bool.true_and]; exact decide_eq_true ⟨h1, h2⟩]; exact sl2_tt L M h1 h2
        · rw [show (true && decide (lenOK L M 2)) = false from by rw [Bool.true_and]; exact decide_eq_false (fun e => h2 e.2)]; exact sl2_tf L M h1 h2
      · rw [show (true && decide (lenOK L M 2)) = false from by rw [Bool.true_and]; exact decide_eq_false (fun e => h1 e.1)]; exact sl2_f L M h1
theorem sl_all (L : Nat → List (Int × Int)) (M : Nat → List Nat) : Sound Try.prog 0 false (.loop (loopB Try.f8 0)) (slA L M true 0).aa (.exit 0) (slX L M (preB (lenOK L M) 3)).aa := by
  refine loop_ok (m := fun y : { i : Nat // i ≤ 3 } => 3 - y.val) (fun y => slA L M (preB (lenOK L M) y.val) (y.val : Int)) (by simp) (fun y => ?_) ⟨0, by omega⟩
  obtain ⟨i, hi⟩ := y
  by_cases e : i < 3
  · exact .inl ⟨⟨i + 1, e⟩, by show 3 - (i + 1) < 3 - i; omega, sl_round L M _ i e⟩
  · have e : i = 3 := by omega
    subst e
    exact .inr (sl_end L M _)
theorem sm0e_ok (L : Nat → List (Int × Int)) (M : Nat → List Nat) (hm : (L 0).length ≤ 9223372036854775807) (i : Nat) (r q : Int) (hx : (L 0)[i]? = some (r, q)) (h : inR (L 0).length (r, q)) : Sound Try.prog 0 false (loopB Try.f8 2) (slB1 L M true (i : Int)).aa .normal (slB1 L M true ((i + 1 : Nat) : Int)).aa := by
  have hi := pl_lt hx
  have h1 : 0 ≤ q := h.1
  have h2 : q ≤ 2 := h.2.1
  have h3 : 0 ≤ r := h.2.2.1
  have h4 : r < ((L 0).length : Nat) := h.2.2.2
  have hh := roundK_sound (P := Try.prog) (X := rulesY _) (env := []) trivial (n := 0) (os := oL [(23, wT), (24, rO 14 i), (25, { ch := 0, hi := fun _ => 0, ru := 8, cs := fun _ => [.c (.int .i64 r), .c (.int .i64 q)] }), (32, wT), (37, wT), (42, wT), (50, wT)]) (fb := 0) (rd := false) (c := (loopB Try.f8 2)) (k := 23) (I := slB1 L M true (i : Int)) (sk := [2, 3, 5, 38, 43, 44, 45]) (hk := [0, 1, 2, 4, 5, 6, 8, 9]) (lk := []) (ex := .normal)
    (L := slB1 L M true (IntKind.i64.wrap ((i : Int) + 1))) (by kernel_rfl)
    (And.intro (show decide (r < (((L 0).length : Nat) : Int)) = true from decide_eq_true (by omega))
    (And.intro (show decide (r ≥ 0) = true from decide_eq_true (by omega))
    (And.intro (show decide (q ≤ 2) = true from decide_eq_true (by omega))
    (And.intro (show decide (q ≥ 0) = true from decide_eq_true (by omega))
    (And.intro (pl_at (L 0) i (r, q) hx)
    (And.intro (show (i : Int) = ((i : Nat) : Int) ∧ i < (L 0).length from ⟨rfl, hi⟩)
    (And.intro (show decide ((i : Int) < (((L 0).length : Nat) : Int)) = true from decide_eq_true (by omega)) trivial)))))))
  rw [wrap_i64, show (if ((i : Int) + 1) % 18446744073709551616 < 9223372036854775808 then ((i : Int) + 1) % 18446744073709551616 else ((i : Int) + 1) % 18446744073709551616 - 18446744073709551616) = ((i + 1 : Nat) : Int) by omega] at hh
  exact hh
theorem sm0e_b0 (L : Nat → List (Int × Int)) (M : Nat → List Nat) (hm : (L 0).length ≤ 9223372036854775807) (i : Nat) (r q : Int) (hx : (L 0)[i]? = some (r, q))  (h : ¬ (q ≥ 0)) : Sound Try.prog 0 false (loopB Try.f8 2) (slB1 L M true (i : Int)).aa .normal (slB1 L M false ((i + 1 : Nat) : Int)).aa := by
  have hi := pl_lt hx
  have hh := roundK_sound (P := Try.prog) (X := rulesY _) (env := []) trivial (n := 0) (os := oL [(23, wT), (24, rO 14 i), (25, { ch := 0, hi := fun _ => 0, ru := 8, cs := fun _ => [.c (.int .i64 r), .c (.int .i64 q)] }), (32, wF)]) (fb := 0) (rd := false) (c := (loopB Try.f8 2)) (k := 23) (I := slB1 L M true (i : Int)) (sk := [2, 3, 5, 38, 43, 44, 45]) (hk := [0, 1, 2, 4, 5, 6, 8, 9]) (lk := []) (ex := .normal)
    (L := slB1 L M false (IntKind.i64.wrap ((i : Int) + 1))) (by kernel_rfl)
    (And.intro (show decide (q ≥ 0) = false from decide_eq_false h)
    (And.intro (pl_at (L 0) i (r, q) hx)
    (And.intro (show (i : Int) = ((i : Nat) : Int) ∧ i < (L 0).length from ⟨rfl, hi⟩)
    (And.intro (show decide ((i : Int) < (((L 0).length : Nat) : Int)) = true from decide_eq_true (by omega)) trivial))))
  rw [wrap_i64, show (if ((i : Int) + 1) % 18446744073709551616 < 9223372036854775808 then ((i : Int) + 1) % 18446744073709551616 else ((i : Int) + 1) % 18446744073709551616 - 18446744073709551616) = ((i + 1 : Nat) : Int) by omega] at hh
  exact hh
theorem sm0e_b1 (L : Nat → List (Int × Int)) (M : Nat → List Nat) (hm : (L 0).length ≤ 9223372036854775807) (i : Nat) (r q : Int) (hx : (L 0)[i]? = some (r, q)) (h0 : q ≥ 0) (h : ¬ (q ≤ 2)) : Sound Try.prog 0 false (loopB Try.f8 2) (slB1 L M true (i : Int)).aa .normal (slB1 L M false ((i + 1 : Nat) : Int)).aa := by
  have hi := pl_lt hx
  have hh := roundK_sound (P := Try.prog) (X := rulesY _) (env := []) trivial (n := 0) (os := oL [(23, wT), (24, rO 14 i), (25, { ch := 0, hi := fun _ => 0, ru := 8, cs := fun _ => [.c (.int .i64 r), .c (.int .i64 q)] }), (32, wT), (37, wF)]) (fb := 0) (rd := false) (c := (loopB Try.f8 2)) (k := 23) (I := slB1 L M true (i : Int)) (sk := [2, 3, 5, 38, 43, 44, 45]) (hk := [0, 1, 2, 4, 5, 6, 8, 9]) (lk := []) (ex := .normal)
    (L := slB1 L M false (IntKind.i64.wrap ((i : Int) + 1))) (by kernel_rfl)
    (And.intro (show decide (q ≤ 2) = false from decide_eq_false h)
    (And.intro (show decide (q ≥ 0) = true from decide_eq_true h0)
    (And.intro (pl_at (L 0) i (r, q) hx)
    (And.intro (show (i : Int) = ((i : Nat) : Int) ∧ i < (L 0).length from ⟨rfl, hi⟩)
    (And.intro (show decide ((i : Int) < (((L 0).length : Nat) : Int)) = true from decide_eq_true (by omega)) trivial)))))
  rw [wrap_i64, show (if ((i : Int) + 1) % 18446744073709551616 < 9223372036854775808 then ((i : Int) + 1) % 18446744073709551616 else ((i : Int) + 1) % 18446744073709551616 - 18446744073709551616) = ((i + 1 : Nat) : Int) by omega] at hh
  exact hh
theorem sm0e_b2 (L : Nat → List (Int × Int)) (M : Nat → List Nat) (hm : (L 0).length ≤ 9223372036854775807) (i : Nat) (r q : Int) (hx : (L 0)[i]? = some (r, q)) (h0 : q ≥ 0) (h1 : q ≤ 2) (h : ¬ (r ≥ 0)) : Sound Try.prog 0 false (loopB Try.f8 2) (slB1 L M true (i : Int)).aa .normal (slB1 L M false ((i + 1 : Nat) : Int)).aa := by
  have hi := pl_lt hx
  have hh := roundK_sound (P := Try.prog) (X := rulesY _) (env := []) trivial (n := 0) (os := oL [(23, wT), (24, rO 14 i), (25, { ch := 0, hi := fun _ => 0, ru := 8, cs := fun _ => [.c (.int .i64 r), .c (.int .i64 q)] }), (32, wT), (37, wT), (42, wF)]) (fb := 0) (rd := false) (c := (loopB Try.f8 2)) (k := 23) (I := slB1 L M true (i : Int)) (sk := [2, 3, 5, 38, 43, 44, 45]) (hk := [0, 1, 2, 4, 5, 6, 8, 9]) (lk := []) (ex := .normal)
    (L := slB1 L M false (IntKind.i64.wrap ((i : Int) + 1))) (by kernel_rfl)
    (And.intro (show decide (r ≥ 0) = false from decide_eq_false h)
    (And.intro (show decide (q ≤ 2) = true from decide_eq_true h1)
    (And.intro (show decide (q ≥ 0) = true from decide_eq_true h0)
    (And.intro (pl_at (L 0) i (r, q) hx)
    (And.intro (show (i : Int) = ((i : Nat) : Int) ∧ i < (L 0).length from ⟨rfl, hi⟩)
    (And.intro (show decide ((i : Int) < (((L 0).length : Nat) : Int)) = true from decide_eq_true (by omega)) trivial))))))
  rw [wrap_i64, show (if ((i : Int) + 1) % 18446744073709551616 < 9223372036854775808 then ((i : Int) + 1) % 18446744073709551616 else ((i : Int) + 1) % 18446744073709551616 - 18446744073709551616) = ((i + 1 : Nat) : Int) by omega] at hh
  exact hh
theorem sm0e_b3 (L : Nat → List (Int × Int)) (M : Nat → List Nat) (hm : (L 0).length ≤ 9223372036854775807) (i : Nat) (r q : Int) (hx : (L 0)[i]? = some (r, q)) (h0 : q ≥ 0) (h1 : q ≤ 2) (h2 : r ≥ 0) (h : ¬ (r < (((L 0).length : Nat) : Int))) : Sound Try.prog 0 false (loopB Try.f8 2) (slB1 L M true (i : Int)).aa .normal (slB1 L M false ((i + 1 : Nat) : Int)).aa := by
  have hi := pl_lt hx
  have hh := roundK_sound (P := Try.prog) (X := rulesY _) (env := []) trivial (n := 0) (os := oL [(23, wT), (24, rO 14 i), (25, { ch := 0, hi := fun _ => 0, ru := 8, cs := fun _ => [.c (.int .i64 r), .c (.int .i64 q)] }), (32, wT), (37, wT), (42, wT), (50, wF)]) (fb := 0) (rd := false) (c := (loopB Try.f8 2)) (k := 23) (I := slB1 L M true (i : Int)) (sk := [2, 3, 5, 38, 43, 44, 45]) (hk := [0, 1, 2, 4, 5, 6, 8, 9]) (lk := []) (ex := .normal)
    (L := slB1 L M false (IntKind.i64.wrap ((i : Int) + 1))) (by kernel_rfl)
    (And.intro (show decide (r < (((L 0).length : Nat) : Int)) = false from decide_eq_false h)
    (And.intro (show decide (r ≥ 0) = true from decide_eq_true h2)
    (And.intro (show decide (q ≤ 2) = true from decide_eq_true h1)
    (And.intro (show decide (q ≥ 0) = true from decide_eq_true h0)
    (And.intro (pl_at (L 0) i (r, q) hx)
    (And.intro (show (i : Int) = ((i : Nat) : Int) ∧ i < (L 0).length from ⟨rfl, hi⟩)
    (And.intro (show decide ((i : Int) < (((L 0).length : Nat) : Int)) = true from decide_eq_true (by omega)) trivial)))))))
  rw [wrap_i64, show (if ((i : Int) + 1) % 18446744073709551616 < 9223372036854775808 then ((i : Int) + 1) % 18446744073709551616 else ((i : Int) + 1) % 18446744073709551616 - 18446744073709551616) = ((i + 1 : Nat) : Int) by omega] at hh
  exact hh
theorem sm0e_0 (L : Nat → List (Int × Int)) (M : Nat → List Nat) (hm : (L 0).length ≤ 9223372036854775807) (i : Nat) (r q : Int) (hx : (L 0)[i]? = some (r, q))  : Sound Try.prog 0 false (loopB Try.f8 2) (slB1 L M false (i : Int)).aa .normal (slB1 L M false ((i + 1 : Nat) : Int)).aa := by
  have hi := pl_lt hx
  have hh := roundK_sound (P := Try.prog) (X := rulesY _) (env := []) trivial (n := 0) (os := oL [(23, wT), (24, rO 14 i), (25, { ch := 0, hi := fun _ => 0, ru := 8, cs := fun _ => [.c (.int .i64 r), .c (.int .i64 q)] })]) (fb := 0) (rd := false) (c := (loopB Try.f8 2)) (k := 23) (I := slB1 L M false (i : Int)) (sk := [2, 3, 5, 38, 43, 44, 45]) (hk := [0, 1, 2, 4, 5, 6, 8, 9]) (lk := []) (ex := .normal)
    (L := slB1 L M false (IntKind.i64.wrap ((i : Int) + 1))) (by kernel_rfl)
    (And.intro (pl_at (L 0) i (r, q) hx)
    (And.intro (show (i : Int) = ((i : Nat) : Int) ∧ i < (L 0).length from ⟨rfl, hi⟩)
    (And.intro (show decide ((i : Int) < (((L 0).length : Nat) : Int)) = true from decide_eq_true (by omega)) trivial)))
  rw [wrap_i64, show (if ((i : Int) + 1) % 18446744073709551616 < 9223372036854775808 then ((i : Int) + 1) % 18446744073709551616 else ((i : Int) + 1) % 18446744073709551616 - 18446744073709551616) = ((i + 1 : Nat) : Int) by omega] at hh
  exact hh
theorem sm0e_end (L : Nat → List (Int × Int)) (M : Nat → List Nat) (b : Bool) : Sound Try.prog 0 false (loopB Try.f8 2) (slB1 L M b (((L 0).length : Nat) : Int)).aa (.exit 4) (slB L M b 0).aa := by
  have hh := roundK_sound (P := Try.prog) (X := rulesY _) (env := []) trivial (n := 0) (os := oL [(23, wF)]) (fb := 0) (rd := false) (c := (loopB Try.f8 2)) (k := 23) (I := slB1 L M b (((L 0).length : Nat) : Int)) (sk := [2, 3, 5, 38]) (hk := [0, 1, 2, 4, 5, 6, 8, 9]) (lk := []) (ex := (.exit 4))
    (L := slB L M b 0) (by kernel_rfl)
    (And.intro (show decide ((((L 0).length : Nat) : Int) < (((L 0).length : Nat) : Int)) = false from decide_eq_false (by omega)) trivial)
  exact hh
theorem sm0e_round (L : Nat → List (Int × Int)) (M : Nat → List Nat) (hm : (L 0).length ≤ 9223372036854775807) (b : Bool) (i : Nat) (p : Int × Int) (hx : (L 0)[i]? = some p) : Sound Try.prog 0 false (loopB Try.f8 2) (slB1 L M b (i : Int)).aa .normal (slB1 L M (b && decide (inR (L 0).length p)) ((i + 1 : Nat) : Int)).aa := by
  obtain ⟨r, q⟩ := p
  cases b with
  | false => exact sm0e_0 L M hm i r q hx
  | true =>
    rw [Bool.true_and]
    by_cases h : inR (L 0).length (r, q)
    · rw [decide_eq_true h]; exact sm0e_ok L M hm i r q hx h
    · rw [decide_eq_false h]
      by_cases h0 : q ≥ 0
      · by_cases h1 : q ≤ 2
        · by_cases h2 : r ≥ 0
          · by_cases h3 : r < (((L 0).length : Nat) : Int)
            · exact absurd (show inR (L 0).length (r, q) from ⟨h0, h1, h2, h3⟩) h
            · exact sm0e_b3 L M hm i r q hx h0 h1 h2 h3
          · exact sm0e_b2 L M hm i r q hx h0 h1 h2
        · exact sm0e_b1 L M hm i r q hx h0 h1
      · exact sm0e_b0 L M hm i r q hx h0
theorem sm0e_all (L : Nat → List (Int × Int)) (M : Nat → List Nat) (hm : (L 0).length ≤ 9223372036854775807) (b : Bool) : Sound Try.prog 0 false (.loop (loopB Try.f8 2)) (slB1 L M b 0).aa (.exit 4) (slB L M (b && (L 0).all (fun p => decide (inR (L 0).length p))) 0).aa := by
  have hh := loop_ok (P := Try.prog) (fb := 0) (rd := false) (body := (loopB Try.f8 2)) (ex := .exit 4) (E := slB L M (b && ((L 0).take (L 0).length).all (fun p => decide (inR (L 0).length p))) 0) (m := fun y : { i : Nat // i ≤ (L 0).length } => (L 0).length - y.val) (fun y => slB1 L M (b && ((L 0).take y.val).all (fun p => decide (inR (L 0).length p))) (y.val : Int)) (by simp) (fun y => ?_) ⟨0, by omega⟩
  · rw [List.take_length] at hh
    simp only [List.take_zero, List.all_nil, Bool.and_true] at hh
    exact hh
  obtain ⟨i, hi⟩ := y
  by_cases e : i < (L 0).length
  · obtain ⟨p, hp⟩ := pl_of e
    have h1 := sm0e_round L M hm (b && ((L 0).take i).all (fun p => decide (inR (L 0).length p))) i p hp
    rw [Bool.and_assoc, ← all_take_succ _ hp] at h1
    exact .inl ⟨⟨i + 1, e⟩, by show (L 0).length - (i + 1) < (L 0).length - i; omega, h1⟩
  · have e : i = (L 0).length := by omega
    subst e
    exact .inr (sm0e_end L M _)
theorem sm0f_round (L : Nat → List (Int × Int)) (M : Nat → List Nat) (hm : ∀ w, (L w).length ≤ 9223372036854775807)  (b : Bool) : Sound Try.prog 0 false (loopB Try.f8 1) (slB L M b 0).aa .normal (slB L M (b && (L 0).all (fun p => decide (inR (L 0).length p))) 1).aa := by
  have hh := roundK_sound (P := Try.prog) (X := rulesY _) (env := []) trivial (n := 0) (os := oL [(23, lpO { I := slB1 L M b 0, ex := .exit 4, E := slB L M (b && (L 0).all (fun p => decide (inR (L 0).length p))) 0, fr := 24 })]) (fb := 0) (rd := false) (c := (loopB Try.f8 1)) (k := 15) (I := slB L M b 0) (sk := [2, 3, 5, 38]) (hk := [0, 1, 2, 4, 5, 6, 8, 9]) (lk := []) (ex := .normal)
    (L := slB L M (b && (L 0).all (fun p => decide (inR (L 0).length p))) 1) (by kernel_rfl)
    (And.intro (show some (slB1 L M b 0) = some (slB1 L M b 0) from rfl)
    (And.intro (sm0e_all L M (hm 0) b) trivial))
  exact hh
theorem sm1e_ok (L : Nat → List (Int × Int)) (M : Nat → List Nat) (hm : (L 1).length ≤ 9223372036854775807) (i : Nat) (r q : Int) (hx : (L 1)[i]? = some (r, q)) (h : inR (L 0).length (r, q)) : Sound Try.prog 0 false (loopB Try.f8 2) (slB2 L M true (i : Int)).aa .normal (slB2 L M true ((i + 1 : Nat) : Int)).aa := by
  have hi := pl_lt hx
  have h1 : 0 ≤ q := h.1
  have h2 : q ≤ 2 := h.2.1
  have h3 : 0 ≤ r := h.2.2.1
  have h4 : r < ((L 0).length : Nat) := h.2.2.2
  have hh := roundK_sound (P := Try.prog) (X := rulesY _) (env := []) trivial (n := 0) (os := oL [(23, wT), (24, rO 14 i), (25, { ch := 0, hi := fun _ => 0, ru := 8, cs := fun _ => [.c (.int .i64 r), .c (.int .i64 q)] }), (32, wT), (37, wT), (42, wT), (50, wT)]) (fb := 0) (rd := false) (c := (loopB Try.f8 2)) (k := 23) (I := slB2 L M true (i : Int)) (sk := [2, 3, 5, 38, 43, 44, 45]) (hk := [0, 1, 2, 4, 5, 6, 8, 9]) (lk := []) (ex := .normal)
    (L := slB2 L M true (IntKind.i64.wrap ((i : Int) + 1))) (by kernel_rfl)
    (And.intro (show decide (r < (((L 0).length : Nat) : Int)) = true from decide_eq_true (by omega))
    (And.intro (show decide (r ≥ 0) = true from decide_eq_true (by omega))
    (And.intro (show decide (q ≤ 2) = true from decide_eq_true (by omega))
    (And.intro (show decide (q ≥ 0) = true from decide_eq_true (by omega))
    (And.intro (pl_at (L 1) i (r, q) hx)
    (And.intro (show (i : Int) = ((i : Nat) : Int) ∧ i < (L 1).length from ⟨rfl, hi⟩)
    (And.intro (show decide ((i : Int) < (((L 1).length : Nat) : Int)) = true from decide_eq_true (by omega)) trivial)))))))
  rw [wrap_i64, show (if ((i : Int) + 1) % 18446744073709551616 < 9223372036854775808 then ((i : Int) + 1) % 18446744073709551616 else ((i : Int) + 1) % 18446744073709551616 - 18446744073709551616) = ((i + 1 : Nat) : Int) by omega] at hh
  exact hh
theorem sm1e_b0 (L : Nat → List (Int × Int)) (M : Nat → List Nat) (hm : (L 1).length ≤ 9223372036854775807) (i : Nat) (r q : Int) (hx : (L 1)[i]? = some (r, q))  (h : ¬ (q ≥ 0)) : Sound Try.prog 0 false (loopB Try.f8 2) (slB2 L M true (i : Int)).aa .normal (slB2 L M false ((i + 1 : Nat) : Int)).aa := by
  have hi := pl_lt hx
  have hh := roundK_sound (P := Try.prog) (X := rulesY _) (env := []) trivial (n := 0) (os := oL [(23, wT), (24, rO 14 i), (25, { ch := 0, hi := fun _ => 0, ru := 8, cs := fun _ => [.c (.int .i64 r), .c (.int .i64 q)] }), (32, wF)]) (fb := 0) (rd := false) (c := (loopB Try.f8 2)) (k := 23) (I := slB2 L M true (i : Int)) (sk := [2, 3, 5, 38, 43, 44, 45]) (hk := [0, 1, 2, 4, 5, 6, 8, 9]) (lk := []) (ex := .normal)
    (L := slB2 L M false (IntKind.i64.wrap ((i : Int) + 1))) (by kernel_rfl)
    (And.intro (show decide (q ≥ 0) = false from decide_eq_false h)
    (And.intro (pl_at (L 1) i (r, q) hx)
    (And.intro (show (i : Int) = ((i : Nat) : Int) ∧ i < (L 1).length from ⟨rfl, hi⟩)
    (And.intro (show decide ((i : Int) < (((L 1).length : Nat) : Int)) = true from decide_eq_true (by omega)) trivial))))
  rw [wrap_i64, show (if ((i : Int) + 1) % 18446744073709551616 < 9223372036854775808 then ((i : Int) + 1) % 18446744073709551616 else ((i : Int) + 1) % 18446744073709551616 - 18446744073709551616) = ((i + 1 : Nat) : Int) by omega] at hh
  exact hh
theorem sm1e_b1 (L : Nat → List (Int × Int)) (M : Nat → List Nat) (hm : (L 1).length ≤ 9223372036854775807) (i : Nat) (r q : Int) (hx : (L 1)[i]? = some (r, q)) (h0 : q ≥ 0) (h : ¬ (q ≤ 2)) : Sound Try.prog 0 false (loopB Try.f8 2) (slB2 L M true (i : Int)).aa .normal (slB2 L M false ((i + 1 : Nat) : Int)).aa := by
  have hi := pl_lt hx
  have hh := roundK_sound (P := Try.prog) (X := rulesY _) (env := []) trivial (n := 0) (os := oL [(23, wT), (24, rO 14 i), (25, { ch := 0, hi := fun _ => 0, ru := 8, cs := fun _ => [.c (.int .i64 r), .c (.int .i64 q)] }), (32, wT), (37, wF)]) (fb := 0) (rd := false) (c := (loopB Try.f8 2)) (k := 23) (I := slB2 L M true (i : Int)) (sk := [2, 3, 5, 38, 43, 44, 45]) (hk := [0, 1, 2, 4, 5, 6, 8, 9]) (lk := []) (ex := .normal)
    (L := slB2 L M false (IntKind.i64.wrap ((i : Int) + 1))) (by kernel_rfl)
    (And.intro (show decide (q ≤ 2) = false from decide_eq_false h)
    (And.intro (show decide (q ≥ 0) = true from decide_eq_true h0)
    (And.intro (pl_at (L 1) i (r, q) hx)
    (And.intro (show (i : Int) = ((i : Nat) : Int) ∧ i < (L 1).length from ⟨rfl, hi⟩)
    (And.intro (show decide ((i : Int) < (((L 1).length : Nat) : Int)) = true from decide_eq_true (by omega)) trivial)))))
  rw [wrap_i64, show (if ((i : Int) + 1) % 18446744073709551616 < 9223372036854775808 then ((i : Int) + 1) % 18446744073709551616 else ((i : Int) + 1) % 18446744073709551616 - 18446744073709551616) = ((i + 1 : Nat) : Int) by omega] at hh
  exact hh
theorem sm1e_b2 (L : Nat → List (Int × Int)) (M : Nat → List Nat) (hm : (L 1).length ≤ 9223372036854775807) (i : Nat) (r q : Int) (hx : (L 1)[i]? = some (r, q)) (h0 : q ≥ 0) (h1 : q ≤ 2) (h : ¬ (r ≥ 0)) : Sound Try.prog 0 false (loopB Try.f8 2) (slB2 L M true (i : Int)).aa .normal (slB2 L M false ((i + 1 : Nat) : Int)).aa := by
  have hi := pl_lt hx
  have hh := roundK_sound (P := Try.prog) (X := rulesY _) (env := []) trivial (n := 0) (os := oL [(23, wT), (24, rO 14 i), (25, { ch := 0, hi := fun _ => 0, ru := 8, cs := fun _ => [.c (.int .i64 r), .c (.int .i64 q)] }), (32, wT), (37, wT), (42, wF)]) (fb := 0) (rd := false) (c := (loopB Try.f8 2)) (k := 23) (I := slB2 L M true (i : Int)) (sk := [2, 3, 5, 38, 43, 44, 45]) (hk := [0, 1, 2, 4, 5, 6, 8, 9]) (lk := []) (ex := .normal)
    (L := slB2 L M false (IntKind.i64.wrap ((i : Int) + 1))) (by kernel_rfl)
    (And.intro (show decide (r ≥ 0) = false from decide_eq_false h)
    (And.intro (show decide (q ≤ 2) = true from decide_eq_true h1)
    (And.intro (show decide (q ≥ 0) = true from decide_eq_true h0)
    (And.intro (pl_at (L 1) i (r, q) hx)
    (And.intro (show (i : Int) = ((i : Nat) : Int) ∧ i < (L 1).length from ⟨rfl, hi⟩)
    (And.intro (show decide ((i : Int) < (((L 1).length : Nat) : Int)) = true from decide_eq_true (by omega)) trivial))))))
  rw [wrap_i64, show (if ((i : Int) + 1) % 18446744073709551616 < 9223372036854775808 then ((i : Int) + 1) % 18446744073709551616 else ((i : Int) + 1) % 18446744073709551616 - 18446744073709551616) = ((i + 1 : Nat) : Int) by omega] at hh
  exact hh
theorem sm1e_b3 (L : Nat → List (Int × Int)) (M : Nat → List Nat) (hm : (L 1).length ≤ 9223372036854775807) (i : Nat) (r q : Int) (hx : (L 1)[i]? = some (r, q)) (h0 : q ≥ 0) (h1 : q ≤ 2) (h2 : r ≥ 0) (h : ¬ (r < (((L 0).length : Nat) : Int))) : Sound Try.prog 0 false (loopB Try.f8 2) (slB2 L M true (i : Int)).aa .normal (slB2 L M false ((i + 1 : Nat) : Int)).aa := by
  have hi := pl_lt hx
  have hh := roundK_sound (P := Try.prog) (X := rulesY _) (env := []) trivial (n := 0) (os := oL [(23, wT), (24, rO 14 i), (25, { ch := 0, hi := fun _ => 0, ru := 8, cs := fun _ => [.c (.int .i64 r), .c (.int .i64 q)] }), (32, wT), (37, wT), (42, wT), (50, wF)]) (fb := 0) (rd := false) (c := (loopB Try.f8 2)) (k := 23) (I := slB2 L M true (i : Int)) (sk := [2, 3, 5, 38, 43, 44, 45]) (hk := [0, 1, 2, 4, 5, 6, 8, 9]) (lk := []) (ex := .normal)
    (L := slB2 L M false (IntKind.i64.wrap ((i : Int) + 1))) (by kernel_rfl)
    (And.intro (show decide (r < (((L 0).length : Nat) : Int)) = false from decide_eq_false h)
    (And.intro (show decide (r ≥ 0) = true from decide_eq_true h2)
    (And.intro (show decide (q ≤ 2) = true from decide_eq_true h1)
    (And.intro (show decide (q ≥ 0) = true from decide_eq_true h0)
    (And.intro (pl_at (L 1) i (r, q) hx)
    (And.intro (show (i : Int) = ((i : Nat) : Int) ∧ i < (L 1).length from ⟨rfl, hi⟩)
    (And.intro (show decide ((i : Int) < (((L 1).length : Nat) : Int)) = true from decide_eq_true (by omega)) trivial)))))))
  rw [wrap_i64, show (if ((i : Int) + 1) % 18446744073709551616 < 9223372036854775808 then ((i : Int) + 1) % 18446744073709551616 else ((i : Int) + 1) % 18446744073709551616 - 18446744073709551616) = ((i + 1 : Nat) : Int) by omega] at hh
  exact hh
theorem sm1e_0 (L : Nat → List (Int × Int)) (M : Nat → List Nat) (hm : (L 1).length ≤ 9223372036854775807) (i : Nat) (r q : Int) (hx : (L 1)[i]? = some (r, q))  : Sound Try.prog 0 false (loopB Try.f8 2) (slB2 L M false (i : Int)).aa .normal (slB2 L M false ((i + 1 : Nat) : Int)).aa := by
  have hi := pl_lt hx
  have hh := roundK_sound (P := Try.prog) (X := rulesY _) (env := []) trivial (n := 0) (os := oL [(23, wT), (24, rO 14 i), (25, { ch := 0, hi := fun _ => 0, ru := 8, cs := fun _ => [.c (.int .i64 r), .c (.int .i64 q)] })]) (fb := 0) (rd := false) (c := (loopB Try.f8 2)) (k := 23) (I := slB2 L M false (i : Int)) (sk := [2, 3, 5, 38, 43, 44, 45]) (hk := [0, 1, 2, 4, 5, 6, 8, 9]) (lk := []) (ex := .normal)
    (L := slB2 L M false (IntKind.i64.wrap ((i : Int) + 1))) (by kernel_rfl)
    (And.intro (pl_at (L 1) i (r, q) hx)
    (And.intro (show (i : Int) = ((i : Nat) : Int) ∧ i < (L 1).length from ⟨rfl, hi⟩)
    (And.intro (show decide ((i : Int) < (((L 1).length : Nat) : Int)) = true from decide_eq_true (by omega)) trivial)))
  rw [wrap_i64, show (if ((i : Int) + 1) % 18446744073709551616 < 9223372036854775808 then ((i : Int) + 1) % 18446744073709551616 else ((i : Int) + 1) % 18446744073709551616 - 18446744073709551616) = ((i + 1 : Nat) : Int) by omega] at hh
  exact hh
theorem sm1e_end (L : Nat → List (Int × Int)) (M : Nat → List Nat) (b : Bool) : Sound Try.prog 0 false (loopB Try.f8 2) (slB2 L M b (((L 1).length : Nat) : Int)).aa (.exit 4) (slB L M b 1).aa := by
  have hh := roundK_sound (P := Try.prog) (X := rulesY _) (env := []) trivial (n := 0) (os := oL [(23, wF)]) (fb := 0) (rd := false) (c := (loopB Try.f8 2)) (k := 23) (I := slB2 L M b (((L 1).length : Nat) : Int)) (sk := [2, 3, 5, 38]) (hk := [0, 1, 2, 4, 5, 6, 8, 9]) (lk := []) (ex := (.exit 4))
    (L := slB L M b 1) (by kernel_rfl)
    (And.intro (show decide ((((L 1).length : Nat) : Int) < (((L 1).length : Nat) : Int)) = false from decide_eq_false (by omega)) trivial)
  exact hh
theorem sm1e_round (L : Nat → List (Int × Int)) (M : Nat → List Nat) (hm : (L 1).length ≤ 9223372036854775807) (b : Bool) (i : Nat) (p : Int × Int) (hx : (L 1)[i]? = some p) : Sound Try.prog 0 false (loopB Try.f8 2) (slB2 L M b (i : Int)).aa .normal (slB2 L M (b && decide (inR (L 0).length p)) ((i + 1 : Nat) : Int)).aa := by
  obtain ⟨r, q⟩ := p
  cases b with
  | false => exact sm1e_0 L M hm i r q hx
  | true =>
    rw [Bool.true_and]
    by_cases h : inR (L 0).length (r, q)
    · rw [decide_eq_true h]; exact sm1e_ok L M hm i r q hx h
    · rw [decide_eq_false h]
      by_cases h0 : q ≥ 0
      · by_cases h1 : q ≤ 2
        · by_cases h2 : r ≥ 0
          · by_cases h3 : r < (((L 0).length : Nat) : Int)
            · exact absurd (show inR (L 0).length (r, q) from ⟨h0, h1, h2, h3⟩) h
            · exact sm1e_b3 L M hm i r q hx h0 h1 h2 h3
          · exact sm1e_b2 L M hm i r q hx h0 h1 h2
        · exact sm1e_b1 L M hm i r q hx h0 h1
      · exact sm1e_b0 L M hm i r q hx h0
theorem sm1e_all (L : Nat → List (Int × Int)) (M : Nat → List Nat) (hm : (L 1).length ≤ 9223372036854775807) (b : Bool) : Sound Try.prog 0 false (.loop (loopB Try.f8 2)) (slB2 L M b 0).aa (.exit 4) (slB L M (b && (L 1).all (fun p => decide (inR (L 0).length p))) 1).aa := by
  have hh := loop_ok (P := Try.prog) (fb := 0) (rd := false) (body := (loopB Try.f8 2)) (ex := .exit 4) (E := slB L M (b && ((L 1).take (L 1).length).all (fun p => decide (inR (L 0).length p))) 1) (m := fun y : { i : Nat // i ≤ (L 1).length } => (L 1).length - y.val) (fun y => slB2 L M (b && ((L 1).take y.val).all (fun p => decide (inR (L 0).length p))) (y.val : Int)) (by simp) (fun y => ?_) ⟨0, by omega⟩
  · rw [List.take_length] at hh
    simp only [List.take_zero, List.all_nil, Bool.and_true] at hh
    exact hh
  obtain ⟨i, hi⟩ := y
  by_cases e : i < (L 1).length
  · obtain ⟨p, hp⟩ := pl_of e
    have h1 := sm1e_round L M hm (b && ((L 1).take i).all (fun p => decide (inR (L 0).length p))) i p hp
    rw [Bool.and_assoc, ← all_take_succ _ hp] at h1
    exact .inl ⟨⟨i + 1, e⟩, by show (L 1).length - (i + 1) < (L 1).length - i; omega, h1⟩
  · have e : i = (L 1).length := by omega
    subst e
    exact .inr (sm1e_end L M _)
theorem sm1f_round (L : Nat → List (Int × Int)) (M : Nat → List Nat) (hm : ∀ w, (L w).length ≤ 9223372036854775807)  (b : Bool) : Sound Try.prog 0 false (loopB Try.f8 1) (slB L M b 1).aa .normal (slB L M (b && (L 1).all (fun p => decide (inR (L 0).length p))) 2).aa := by
  have hh := roundK_sound (P := Try.prog) (X := rulesY _) (env := []) trivial (n := 0) (os := oL [(23, lpO { I := slB2 L M b 0, ex := .exit 4, E := slB L M (b && (L 1).all (fun p => decide (inR (L 0).length p))) 1, fr := 24 })]) (fb := 0) (rd := false) (c := (loopB Try.f8 1)) (k := 15) (I := slB L M b 1) (sk := [2, 3, 5, 38]) (hk := [0, 1, 2, 4, 5, 6, 8, 9]) (lk := []) (ex := .normal)
    (L := slB L M (b && (L 1).all (fun p => decide (inR (L 0).length p))) 2) (by kernel_rfl)
    (And.intro (show some (slB2 L M b 0) = some (slB2 L M b 0) from rfl)
    (And.intro (sm1e_all L M (hm 1) b) trivial))
  exact hh
theorem sm2e_ok (L : Nat → List (Int × Int)) (M : Nat → List Nat) (hm : (L 2).length ≤ 9223372036854775807) (i : Nat) (r q : Int) (hx : (L 2)[i]? = some (r, q)) (h : inR (L 0).length (r, q)) : Sound Try.prog 0 false (loopB Try.f8 2) (slB3 L M true (i : Int)).aa .normal (slB3 L M true ((i + 1 : Nat) : Int)).aa := by
  have hi := pl_lt hx
  have h1 : 0 ≤ q := h.1
  have h2 : q ≤ 2 := h.2.1
  have h3 : 0 ≤ r := h.2.2.1
  have h4 : r < ((L 0).length : Nat) := h.2.2.2
  have hh := roundK_sound (P := Try.prog) (X := rulesY _) (env := []) trivial (n := 0) (os := oL [(23, wT), (24, rO 14 i), (25, { ch := 0, hi := fun _ => 0, ru := 8, cs := fun _ => [.c (.int .i64 r), .c (.int .i64 q)] }), (32, wT), (37, wT), (42, wT), (50, wT)]) (fb := 0) (rd := false) (c := (loopB Try.f8 2)) (k := 23) (I := slB3 L M true (i : Int)) (sk := [2, 3, 5, 38, 43, 44, 45]) (hk := [0, 1, 2, 4, 5, 6, 8, 9]) (lk := []) (ex := .normal)
    (L := slB3 L M true (IntKind.i64.wrap ((i : Int) + 1))) (by kernel_rfl)
    (And.intro (show decide (r < (((L 0).length : Nat) : Int)) = true from decide_eq_true (by omega))
    (And.intro (show decide (r ≥ 0) = true from decide_eq_true (by omega))
    (And.intro (show decide (q ≤ 2) = true from decide_eq_true (by omega))
    (And.intro (show decide (q ≥ 0) = true from decide_eq_true (by omega))
    (And.intro (pl_at (L 2) i (r, q) hx)
    (And.intro (show (i : Int) = ((i : Nat) : Int) ∧ i < (L 2).length from ⟨rfl, hi⟩)
    (And.intro (show decide ((i : Int) < (((L 2).length : Nat) : Int)) = true from decide_eq_true (by omega)) trivial)))))))
  rw [wrap_i64, show (if ((i : Int) + 1) % 18446744073709551616 < 9223372036854775808 then ((i : Int) + 1) % 18446744073709551616 else ((i : Int) + 1) % 18446744073709551616 - 18446744073709551616) = ((i + 1 : Nat) : Int) by omega] at hh
  exact hh
theorem sm2e_b0 (L : Nat → List (Int × Int)) (M : Nat → List Nat) (hm : (L 2).length ≤ 9223372036854775807) (i : Nat) (r q : Int) (hx : (L 2)[i]? = some (r, q))  (h : ¬ (q ≥ 0)) : Sound Try.prog 0 false (loopB Try.f8 2) (slB3 L M true (i : Int)).aa .normal (slB3 L M false ((i + 1 : Nat) : Int)).aa := by
  have hi := pl_lt hx
  have hh := roundK_sound (P := Try.prog) (X := rulesY _) (env := []) trivial (n := 0) (os := oL [(23, wT), (24, rO 14 i), (25, { ch := 0, hi := fun _ => 0, ru := 8, cs := fun _ => [.c (.int .i64 r), .c (.int .i64 q)] }), (32, wF)]) (fb := 0) (rd := false) (c := (loopB Try.f8 2)) (k := 23) (I := slB3 L M true (i : Int)) (sk := [2, 3, 5, 38, 43, 44, 45]) (hk := [0, 1, 2, 4, 5, 6, 8, 9]) (lk := []) (ex := .normal)
    (L := slB3 L M false (IntKind.i64.wrap ((i : Int) + 1))) (by kernel_rfl)
    (And.intro (show decide (q ≥ 0) = false from decide_eq_false h)
    (And.intro (pl_at (L 2) i (r, q) hx)
    (And.intro (show (i : Int) = ((i : Nat) : Int) ∧ i < (L 2).length from ⟨rfl, hi⟩)
    (And.intro (show decide ((i : Int) < (((L 2).length : Nat) : Int)) = true from decide_eq_true (by omega)) trivial))))
  rw [wrap_i64, show (if ((i : Int) + 1) % 18446744073709551616 < 9223372036854775808 then ((i : Int) + 1) % 18446744073709551616 else ((i : Int) + 1) % 18446744073709551616 - 18446744073709551616) = ((i + 1 : Nat) : Int) by omega] at hh
  exact hh
theorem sm2e_b1 (L : Nat → List (Int × Int)) (M : Nat → List Nat) (hm : (L 2).length ≤ 9223372036854775807) (i : Nat) (r q : Int) (hx : (L 2)[i]? = some (r, q)) (h0 : q ≥ 0) (h : ¬ (q ≤ 2)) : Sound Try.prog 0 false (loopB Try.f8 2) (slB3 L M true (i : Int)).aa .normal (slB3 L M false ((i + 1 : Nat) : Int)).aa := by
  have hi := pl_lt hx
  have hh := roundK_sound (P := Try.prog) (X := rulesY _) (env := []) trivial (n := 0) (os := oL [(23, wT), (24, rO 14 i), (25, { ch := 0, hi := fun _ => 0, ru := 8, cs := fun _ => [.c (.int .i64 r), .c (.int .i64 q)] }), (32, wT), (37, wF)]) (fb := 0) (rd := false) (c := (loopB Try.f8 2)) (k := 23) (I := slB3 L M true (i : Int)) (sk := [2, 3, 5, 38, 43, 44, 45]) (hk := [0, 1, 2, 4, 5, 6, 8, 9]) (lk := []) (ex := .normal)
    (L := slB3 L M false (IntKind.i64.wrap ((i : Int) + 1))) (by kernel_rfl)
    (And.intro (show decide (q ≤ 2) = false from decide_eq_false h)
    (And.intro (show decide (q ≥ 0) = true from decide_eq_true h0)
    (And.intro (pl_at (L 2) i (r, q) hx)
    (And.intro (show (i : Int) = ((i : Nat) : Int) ∧ i < (L 2).length from ⟨rfl, hi⟩)
    (And.intro (show decide ((i : Int) < (((L 2).length : Nat) : Int)) = true from decide_eq_true (by omega)) trivial)))))
  rw [wrap_i64, show (if ((i : Int) + 1) % 18446744073709551616 < 9223372036854775808 then ((i : Int) + 1) % 18446744073709551616 else ((i : Int) + 1) % 18446744073709551616 - 18446744073709551616) = ((i + 1 : Nat) : Int) by omega] at hh
  exact hh
theorem sm2e_b2 (L : Nat → List (Int × Int)) (M : Nat → List Nat) (hm : (L 2).length ≤ 9223372036854775807) (i : Nat) (r q : Int) (hx : (L 2)[i]? = some (r, q)) (h0 : q ≥ 0) (h1 : q ≤ 2) (h : ¬ (r ≥ 0)) : Sound Try.prog 0 false (loopB Try.f8 2) (slB3 L M true (i : Int)).aa .normal (slB3 L M false ((i + 1 : Nat) : Int)).aa := by
  have hi := pl_lt hx
  have hh := roundK_sound (P := Try.prog) (X := rulesY _) (env := []) trivial (n := 0) (os := oL [(23, wT), (24, rO 14 i), (25, { ch := 0, hi := fun _ => 0, ru := 8, cs := fun _ => [.c (.int .i64 r), .c (.int .i64 q)] }), (32, wT), (37, wT), (42, wF)]) (fb := 0) (rd := false) (c := (loopB Try.f8 2)) (k := 23) (I := slB3 L M true (i : Int)) (sk := [2, 3, 5, 38, 43, 44, 45]) (hk := [0, 1, 2, 4, 5, 6, 8, 9]) (lk := []) (ex := .normal)
    (L := slB3 L M false (IntKind.i64.wrap ((i : Int) + 1))) (by kernel_rfl)
    (And.intro (show decide (r ≥ 0) = false from decide_eq_false h)
    (And.intro (show decide (q ≤ 2) = true from decide_eq_true h1)
    (And.intro (show decide (q ≥ 0) = true from decide_eq_true h0)
    (And.intro (pl_at (L 2) i (r, q) hx)
    (And.intro (show (i : Int) = ((i : Nat) : Int) ∧ i < (L 2).length from ⟨rfl, hi⟩)
    (And.intro (show decide ((i : Int) < (((L 2).length : Nat) : Int)) = true from decide_eq_true (by omega)) trivial))))))
  rw [wrap_i64, show (if ((i : Int) + 1) % 18446744073709551616 < 9223372036854775808 then ((i : Int) + 1) % 18446744073709551616 else ((i : Int) + 1) % 18446744073709551616 - 18446744073709551616) = ((i + 1 : Nat) : Int) by omega] at hh
  exact hh
theorem sm2e_b3 (L : Nat → List (Int × Int)) (M : Nat → List Nat) (hm : (L 2).length ≤ 9223372036854775807) (i : Nat) (r q : Int) (hx : (L 2)[i]? = some (r, q)) (h0 : q ≥ 0) (h1 : q ≤ 2) (h2 : r ≥ 0) (h : ¬ (r < (((L 0).length : Nat) : Int))) : Sound Try.prog 0 false (loopB Try.f8 2) (slB3 L M true (i : Int)).aa .normal (slB3 L M false ((i + 1 : Nat) : Int)).aa := by
  have hi := pl_lt hx
  have hh := roundK_sound (P := Try.prog) (X := rulesY _) (env := []) trivial (n := 0) (os := oL [(23, wT), (24, rO 14 i), (25, { ch := 0, hi := fun _ => 0, ru := 8, cs := fun _ => [.c (.int .i64 r), .c (.int .i64 q)] }), (32, wT), (37, wT), (42, wT), (50, wF)]) (fb := 0) (rd := false) (c := (loopB Try.f8 2)) (k := 23) (I := slB3 L M true (i : Int)) (sk := [2, 3, 5, 38, 43, 44, 45]) (hk := [0, 1, 2, 4, 5, 6, 8, 9]) (lk := []) (ex := .normal)
    (L := slB3 L M false (IntKind.i64.wrap ((i : Int) + 1))) (by kernel_rfl)
    (And.intro (show decide (r < (((L 0).length : Nat) : Int)) = false from decide_eq_false h)
    (And.intro (show decide (r ≥ 0) = true from decide_eq_true h2)
    (And.intro (show decide (q ≤ 2) = true from decide_eq_true h1)
    (And.intro (show decide (q ≥ 0) = true from decide_eq_true h0)
    (And.intro (pl_at (L 2) i (r, q) hx)
    (And.intro (show (i : Int) = ((i : Nat) : Int) ∧ i < (L 2).length from ⟨rfl, hi⟩)
    (And.intro (show decide ((i : Int) < (((L 2).length : Nat) : Int)) = true from decide_eq_true (by omega)) trivial)))))))
  rw [wrap_i64, show (if ((i : Int) + 1) % 18446744073709551616 < 9223372036854775808 then ((i : Int) + 1) % 18446744073709551616 else ((i : Int) + 1) % 18446744073709551616 - 18446744073709551616) = ((i + 1 : Nat) : Int) by omega] at hh
  exact hh
theorem sm2e_0 (L : Nat → List (Int × Int)) (M : Nat → List Nat) (hm : (L 2).length ≤ 9223372036854775807) (i : Nat) (r q : Int) (hx : (L 2)[i]? = some (r, q))  : Sound Try.prog 0 false (loopB Try.f8 2) (slB3 L M false (i : Int)).aa .normal (slB3 L M false ((i + 1 : Nat) : Int)).aa := by
  have hi := pl_lt hx
  have hh := roundK_sound (P := Try.prog) (X := rulesY _) (env := []) trivial (n := 0) (os := oL [(23, wT), (24, rO 14 i), (25, { ch := 0, hi := fun _ => 0, ru := 8, cs := fun _ => [.c (.int .i64 r), .c (.int .i64 q)] })]) (fb := 0) (rd := false) (c := (loopB Try.f8 2)) (k := 23) (I := slB3 L M false (i : Int)) (sk := [2, 3, 5, 38, 43, 44, 45]) (hk := [0, 1, 2, 4, 5, 6, 8, 9]) (lk := []) (ex := .normal)
    (L := slB3 L M false (IntKind.i64.wrap ((i : Int) + 1))) (by kernel_rfl)
    (And.intro (pl_at (L 2) i (r, q) hx)
    (And.intro (show (i : Int) = ((i : Nat) : Int) ∧ i < (L 2).length from ⟨rfl, hi⟩)
    (And.intro (show decide ((i : Int) < (((L 2).length : Nat) : Int)) = true from decide_eq_true (by omega)) trivial)))
  rw [wrap_i64, show (if ((i : Int) + 1) % 18446744073709551616 < 9223372036854775808 then ((i : Int) + 1) % 18446744073709551616 else ((i : Int) + 1) % 18446744073709551616 - 18446744073709551616) = ((i + 1 : Nat) : Int) by omega] at hh
  exact hh
theorem sm2e_end (L : Nat → List (Int × Int)) (M : Nat → List Nat) (b : Bool) : Sound Try.prog 0 false (loopB Try.f8 2) (slB3 L M b (((L 2).length : Nat) : Int)).aa (.exit 4) (slB L M b 2).aa := by
  have hh := roundK_sound (P := Try.prog) (X := rulesY _) (env := []) trivial (n := 0) (os := oL [(23, wF)]) (fb := 0) (rd := false) (c := (loopB Try.f8 2)) (k := 23) (I := slB3 L M b (((L 2).length : Nat) : Int)) (sk := [2, 3, 5, 38]) (hk := [0, 1, 2, 4, 5, 6, 8, 9]) (lk := []) (ex := (.exit 4))
    (L := slB L M b 2) (by kernel_rfl)
    (And.intro (show decide ((((L 2).length : Nat) : Int) < (((L 2).length : Nat) : Int)) = false from decide_eq_false (by omega)) trivial)
  exact hh
theorem sm2e_round (L : Nat → List (Int × Int)) (M : Nat → List Nat) (hm : (L 2).length ≤ 9223372036854775807) (b : Bool) (i : Nat) (p : Int × Int) (hx : (L 2)[i]? = some p) : Sound Try.prog 0 false (loopB Try.f8 2) (slB3 L M b (i : Int)).aa .normal (slB3 L M (b && decide (inR (L 0).length p)) ((i + 1 : Nat) : Int)).aa := by
  obtain ⟨r, q⟩ := p
  cases b with
  | false => exact sm2e_0 L M hm i r q hx
  | true =>
    rw [Bool.true_and]
    by_cases h : inR (L 0).length (r, q)
    · rw [decide_eq_true h]; exact sm2e_ok L M hm i r q hx h
    · rw [decide_eq_false h]
      by_cases h0 : q ≥ 0
      · by_cases h1 : q ≤ 2
        · by_cases h2 : r ≥ 0
          · by_cases h3 : r < (((L 0).length : Nat) : Int)
            · exact absurd (show inR (L 0).length (r, q) from ⟨h0, h1, h2, h3⟩) h
            · exact sm2e_b3 L M hm i r q hx h0 h1 h2 h3
          · exact sm2e_b2 L M hm i r q hx h0 h1 h2
        · exact sm2e_b1 L M hm i r q hx h0 h1
      · exact sm2e_b0 L M hm i r q hx h0
theorem sm2e_all (L : Nat → List (Int × Int)) (M : Nat → List Nat) (hm : (L 2).length ≤ 9223372036854775807) (b : Bool) : Sound Try.prog 0 false (.loop (loopB Try.f8 2)) (slB3 L M b 0).aa (.exit 4) (slB L M (b && (L 2).all (fun p => decide (inR (L 0).length p))) 2).aa := by
  have hh := loop_ok (P := Try.prog) (fb := 0) (rd := false) (body := (loopB Try.f8 2)) (ex := .exit 4) (E := slB L M (b && ((L 2).take (L 2).length).all (fun p => decide (inR (L 0).length p))) 2) (m := fun y : { i : Nat // i ≤ (L 2).length } => (L 2).length - y.val) (fun y => slB3 L M (b && ((L 2).take y.val).all (fun p => decide (inR (L 0).length p))) (y.val : Int)) (by simp) (fun y => ?_) ⟨0, by omega⟩
  · rw [List.take_length] at hh
    simp only [List.take_zero, List.all_nil, Bool.and_true] at hh
    exact hh
  obtain ⟨i, hi⟩ := y
  by_cases e : i < (L 2).length
  · obtain ⟨p, hp⟩ := pl_of e
    have h1 := sm2e_round L M hm (b && ((L 2).take i).all (fun p => decide (inR (L 0).length p))) i p hp
    rw [Bool.and_assoc, ← all_take_succ _ hp] at h1
    exact .inl ⟨⟨i + 1, e⟩, by show (L 2).length - (i + 1) < (L 2).length - i; omega, h1⟩
  · have e : i = (L 2).length := by omega
    subst e
    exact .inr (sm2e_end L M _)
theorem sm2f_round (L : Nat → List (Int × Int)) (M : Nat → List Nat) (hm : ∀ w, (L w).length ≤ 9223372036854775807)  (b : Bool) : Sound Try.prog 0 false (loopB Try.f8 1) (slB L M b 2).aa .normal (slB L M (b && (L 2).all (fun p => decide (inR (L 0).length p))) 3).aa := by
  have hh := roundK_sound (P := Try.prog) (X := rulesY _) (env := []) trivial (n := 0) (os := oL [(23, lpO { I := slB3 L M b 0, ex := .exit 4, E := slB L M (b && (L 2).all (fun p => decide (inR (L 0).length p))) 2, fr := 24 })]) (fb := 0) (rd := false) (c := (loopB Try.f8 1)) (k := 15) (I := slB L M b 2) (sk := [2, 3, 5, 38]) (hk := [0, 1, 2, 4, 5, 6, 8, 9]) (lk := []) (ex := .normal)
    (L := slB L M (b && (L 2).all (fun p => decide (inR (L 0).length p))) 3) (by kernel_rfl)
    (And.intro (show some (slB3 L M b 0) = some (slB3 L M b 0) from rfl)
    (And.intro (sm2e_all L M (hm 2) b) trivial))
  exact hh
theorem smf_end (L : Nat → List (Int × Int)) (M : Nat → List Nat) (b : Bool) : Sound Try.prog 0 false (loopB Try.f8 1) (slB L M b 3).aa (.exit 2) (slX L M b).aa := by
  have hh := roundK_sound (P := Try.prog) (X := rulesY _) (env := []) trivial (n := 0) (os := oL []) (fb := 0) (rd := false) (c := (loopB Try.f8 1)) (k := 15) (I := slB L M b 3) (sk := [2, 3, 5]) (hk := [0, 1, 2, 4, 5, 6, 8, 9]) (lk := []) (ex := (.exit 2))
    (L := slX L M b) (by kernel_rfl)
    trivial
  exact hh
def rngB (L : Nat → List (Int × Int)) (M : Nat → List Nat) (b : Bool) : Nat → Bool
  | 0 => b
  | w + 1 => rngB L M b w && (L w).all (fun p => decide (inR (L 0).length p))
theorem smf_round (L : Nat → List (Int × Int)) (M : Nat → List Nat) (hm : ∀ w, (L w).length ≤ 9223372036854775807)  (b : Bool) (w : Nat) (hw : w < 3) : Sound Try.prog 0 false (loopB Try.f8 1) (slB L M b (w : Int)).aa .normal (slB L M (b && (L w).all (fun p => decide (inR (L 0).length p))) ((w + 1 : Nat) : Int)).aa := by
  match w, hw with
  | 0, _ => exact sm0f_round L M hm b
  | 1, _ => exact sm1f_round L M hm b
  | 2, _ => exact sm2f_round L M hm b
theorem smf_all (L : Nat → List (Int × Int)) (M : Nat → List Nat) (hm : ∀ w, (L w).length ≤ 9223372036854775807)  (b : Bool) : Sound Try.prog 0 false (.loop (loopB Try.f8 1)) (slB L M b 0).aa (.exit 2) (slX L M (rngB L M b 3)).aa := by
  refine loop_ok (m := fun y : { i : Nat // i ≤ 3 } => 3 - y.val) (fun y => slB L M (rngB L M b y.val) (y.val : Int)) (by simp) (fun y => ?_) ⟨0, by omega⟩
  obtain ⟨i, hi⟩ := y
  by_cases e : i < 3
  · exact .inl ⟨⟨i + 1, e⟩, by show 3 - (i + 1) < 3 - i; omega, smf_round L M hm _ i e⟩
  · have e : i = 3 := by omega
    subst e
    exact .inr (smf_end L M _)
theorem rng_iff (L : Nat → List (Int × Int)) (M : Nat → List Nat) : rngB L M (preB (lenOK L M) 3) 3 = true ↔ ∀ w, w < 3 → rowOK L M w := by
  simp only [rngB, Bool.and_eq_true, preB_iff, List.all_eq_true, decide_eq_true_eq]
  refine ⟨fun h w hw => ⟨(h.1.1.1 w hw).1, (h.1.1.1 w hw).2, ?_⟩, fun h => ⟨⟨⟨fun w hw => ⟨(h w hw).1, (h w hw).2.1⟩, (h 0 (by omega)).2.2⟩, (h 1 (by omega)).2.2⟩, (h 2 (by omega)).2.2⟩⟩
  match w, hw with
  | 0, _ => exact h.1.1.2
  | 1, _ => exact h.1.2
  | 2, _ => exact h.2
theorem sm0g0_ok (L : Nat → List (Int × Int)) (M : Nat → List Nat) (hm : (L 0).length ≤ 9223372036854775807) (hs : ∀ w x, x ∈ M w → x < 115792089237316195423570985008687907853269984665640564039457584007913129639936) (i r x y : Nat) (hp : (L 0)[i]? = some ((r : Int), (0 : Int))) (hx : (M 0)[i]? = some x) (hy : (M 0)[r]? = some y) (h : ofR x = ofR y) : Sound Try.prog 0 false (loopB Try.f8 4) (slC1 L M true (i : Int)).aa .normal (slC1 L M true ((i + 1 : Nat) : Int)).aa := by
  have hi := pl_lt hp
  have hj := pl_lt hx
  have hk := pl_lt hy
  have hh := roundK_sound (P := Try.prog) (X := rulesY _) (env := [eCleanS]) ⟨eCleanS_ok, trivial⟩ (n := 0) (os := oL [(27, wT), (29, rO 14 i), (30, { ch := 0, hi := fun _ => 0, ru := 8, cs := fun _ => [.c (.int .i64 (r : Int)), .c (.int .i64 0)] }), (40, rO 14 i), (41, { ch := 0, hi := fun _ => 0, ru := 8, cs := fun _ => [.n 4 x] }), (49, rO 14 r), (50, { ch := 0, hi := fun _ => 0, ru := 8, cs := fun _ => [.n 4 y] }), (52, wO 0)]) (fb := 0) (rd := false) (c := (loopB Try.f8 4)) (k := 27) (I := slC1 L M true (i : Int)) (sk := [2, 3, 5, 10, 84, 85, 86]) (hk := [0, 1, 2, 4, 5, 6, 8, 9]) (lk := []) (ex := .normal)
    (L := slC1 L M true (IntKind.i64.wrap ((i : Int) + 1))) (by kernel_rfl)
    (And.intro (show flat [Ch.e (ofR x)] = flat [Ch.e (ofR y)] from by rw [h])
    (And.intro (show y < 115792089237316195423570985008687907853269984665640564039457584007913129639936 from hs 0 y (pl_mem hy))
    (And.intro (nu_at (M 0) r y hy)
    (And.intro (show (r : Int) = ((r : Nat) : Int) ∧ r < (M 0).length from ⟨rfl, hk⟩)
    (And.intro (show x < 115792089237316195423570985008687907853269984665640564039457584007913129639936 from hs 0 x (pl_mem hx))
    (And.intro (nu_at (M 0) i x hx)
    (And.intro (show (i : Int) = ((i : Nat) : Int) ∧ i < (M 0).length from ⟨rfl, hj⟩)
    (And.intro (pl_at (L 0) i ((r : Int), (0 : Int)) hp)
    (And.intro (show (i : Int) = ((i : Nat) : Int) ∧ i < (L 0).length from ⟨rfl, hi⟩)
    (And.intro (show decide ((i : Int) < (((L 0).length : Nat) : Int)) = true from decide_eq_true (by omega)) trivial))))))))))
  rw [wrap_i64, show (if ((i : Int) + 1) % 18446744073709551616 < 9223372036854775808 then ((i : Int) + 1) % 18446744073709551616 else ((i : Int) + 1) % 18446744073709551616 - 18446744073709551616) = ((i + 1 : Nat) : Int) by omega] at hh
  exact hh
theorem sm0g0_no (L : Nat → List (Int × Int)) (M : Nat → List Nat) (hm : (L 0).length ≤ 9223372036854775807) (hs : ∀ w x, x ∈ M w → x < 115792089237316195423570985008687907853269984665640564039457584007913129639936) (i r x y : Nat) (hp : (L 0)[i]? = some ((r : Int), (0 : Int))) (hx : (M 0)[i]? = some x) (hy : (M 0)[r]? = some y) (h : ¬ ofR x = ofR y) : Sound Try.prog 0 false (loopB Try.f8 4) (slC1 L M true (i : Int)).aa .normal (slC1 L M false ((i + 1 : Nat) : Int)).aa := by
  have hi := pl_lt hp
  have hj := pl_lt hx
  have hk := pl_lt hy
  have hh := roundK_sound (P := Try.prog) (X := rulesY _) (env := [eCleanS]) ⟨eCleanS_ok, trivial⟩ (n := 0) (os := oL [(27, wT), (29, rO 14 i), (30, { ch := 0, hi := fun _ => 0, ru := 8, cs := fun _ => [.c (.int .i64 (r : Int)), .c (.int .i64 0)] }), (40, rO 14 i), (41, { ch := 0, hi := fun _ => 0, ru := 8, cs := fun _ => [.n 4 x] }), (49, rO 14 r), (50, { ch := 0, hi := fun _ => 0, ru := 8, cs := fun _ => [.n 4 y] }), (52, wO 1)]) (fb := 0) (rd := false) (c := (loopB Try.f8 4)) (k := 27) (I := slC1 L M true (i : Int)) (sk := [2, 3, 5, 10, 84, 85, 86]) (hk := [0, 1, 2, 4, 5, 6, 8, 9]) (lk := []) (ex := .normal)
    (L := slC1 L M false (IntKind.i64.wrap ((i : Int) + 1))) (by kernel_rfl)
    (And.intro (show flat [Ch.e (ofR x)] ≠ flat [Ch.e (ofR y)] from fun e => h (flat_e_inj e))
    (And.intro (show y < 115792089237316195423570985008687907853269984665640564039457584007913129639936 from hs 0 y (pl_mem hy))
    (And.intro (nu_at (M 0) r y hy)
    (And.intro (show (r : Int) = ((r : Nat) : Int) ∧ r < (M 0).length from ⟨rfl, hk⟩)
    (And.intro (show x < 115792089237316195423570985008687907853269984665640564039457584007913129639936 from hs 0 x (pl_mem hx))
    (And.intro (nu_at (M 0) i x hx)
    (And.intro (show (i : Int) = ((i : Nat) : Int) ∧ i < (M 0).length from ⟨rfl, hj⟩)
    (And.intro (pl_at (L 0) i ((r : Int), (0 : Int)) hp)
    (And.intro (show (i : Int) = ((i : Nat) : Int) ∧ i < (L 0).length from ⟨rfl, hi⟩)
    (And.intro (show decide ((i : Int) < (((L 0).length : Nat) : Int)) = true from decide_eq_true (by omega)) trivial))))))))))
  rw [wrap_i64, show (if ((i : Int) + 1) % 18446744073709551616 < 9223372036854775808 then ((i : Int) + 1) % 18446744073709551616 else ((i : Int) + 1) % 18446744073709551616 - 18446744073709551616) = ((i + 1 : Nat) : Int) by omega] at hh
  exact hh
theorem sm0g1_ok (L : Nat → List (Int × Int)) (M : Nat → List Nat) (hm : (L 0).length ≤ 9223372036854775807) (hs : ∀ w x, x ∈ M w → x < 115792089237316195423570985008687907853269984665640564039457584007913129639936) (i r x y : Nat) (hp : (L 0)[i]? = some ((r : Int), (1 : Int))) (hx : (M 0)[i]? = some x) (hy : (M 1)[r]? = some y) (h : ofR x = ofR y) : Sound Try.prog 0 false (loopB Try.f8 4) (slC1 L M true (i : Int)).aa .normal (slC1 L M true ((i + 1 : Nat) : Int)).aa := by
  have hi := pl_lt hp
  have hj := pl_lt hx
  have hk := pl_lt hy
  have hh := roundK_sound (P := Try.prog) (X := rulesY _) (env := [eCleanS]) ⟨eCleanS_ok, trivial⟩ (n := 0) (os := oL [(27, wT), (29, rO 14 i), (30, { ch := 0, hi := fun _ => 0, ru := 8, cs := fun _ => [.c (.int .i64 (r : Int)), .c (.int .i64 1)] }), (40, rO 14 i), (41, { ch := 0, hi := fun _ => 0, ru := 8, cs := fun _ => [.n 4 x] }), (49, rO 14 r), (50, { ch := 0, hi := fun _ => 0, ru := 8, cs := fun _ => [.n 4 y] }), (52, wO 0)]) (fb := 0) (rd := false) (c := (loopB Try.f8 4)) (k := 27) (I := slC1 L M true (i : Int)) (sk := [2, 3, 5, 10, 84, 85, 86]) (hk := [0, 1, 2, 4, 5, 6, 8, 9]) (lk := []) (ex := .normal)
    (L := slC1 L M true (IntKind.i64.wrap ((i : Int) + 1))) (by kernel_rfl)
    (And.intro (show flat [Ch.e (ofR x)] = flat [Ch.e (ofR y)] from by rw [h])
    (And.intro (show y < 115792089237316195423570985008687907853269984665640564039457584007913129639936 from hs 1 y (pl_mem hy))
    (And.intro (nu_at (M 1) r y hy)
    (And.intro (show (r : Int) = ((r : Nat) : Int) ∧ r < (M 1).length from ⟨rfl, hk⟩)
    (And.intro (show x < 115792089237316195423570985008687907853269984665640564039457584007913129639936 from hs 0 x (pl_mem hx))
    (And.intro (nu_at (M 0) i x hx)
    (And.intro (show (i : Int) = ((i : Nat) : Int) ∧ i < (M 0).length from ⟨rfl, hj⟩)
    (And.intro (pl_at (L 0) i ((r : Int), (1 : Int)) hp)
    (And.intro (show (i : Int) = ((i : Nat) : Int) ∧ i < (L 0).length from ⟨rfl, hi⟩)
    (And.intro (show decide ((i : Int) < (((L 0).length : Nat) : Int)) = true from decide_eq_true (by omega)) trivial))))))))))
  rw [wrap_i64, show (if ((i : Int) + 1) % 18446744073709551616 < 9223372036854775808 then ((i : Int) + 1) % 18446744073709551616 else ((i : Int) + 1) % 18446744073709551616 - 18446744073709551616) = ((i + 1 : Nat) : Int) by omega] at hh
  exact hh
theorem sm0g1_no (L : Nat → List (Int × Int)) (M : Nat → List Nat) (hm : (L 0).length ≤ 9223372036854775807) (hs : ∀ w x, x ∈ M w → x < 115792089237316195423570985008687907853269984665640564039457584007913129639936) (i r x y : Nat) (hp : (L 0)[i]? = some ((r : Int), (1 : Int))) (hx : (M 0)[i]? = some x) (hy : (M 1)[r]? = some y) (h : ¬ ofR x = ofR y) : Sound Try.prog 0 false (loopB Try.f8 4) (slC1 L M true (i : Int)).aa .normal (slC1 L M false ((i + 1 : Nat) : Int)).aa := by
  have hi := pl_lt hp
  have hj := pl_lt hx
  have hk := pl_lt hy
  have hh := roundK_sound (P := Try.prog) (X := rulesY _) (env := [eCleanS]) ⟨eCleanS_ok, trivial⟩ (n := 0) (os := oL [(27, wT), (29, rO 14 i), (30, { ch := 0, hi := fun _ => 0, ru := 8, cs := fun _ => [.c (.int .i64 (r : Int)), .c (.int .i64 1)] }), (40, rO 14 i), (41, { ch := 0, hi := fun _ => 0, ru := 8, cs := fun _ => [.n 4 x] }), (49, rO 14 r), (50, { ch := 0, hi := fun _ => 0, ru := 8, cs := fun _ => [.n 4 y] }), (52, wO 1)]) (fb := 0) (rd := false) (c := (loopB Try.f8 4)) (k := 27) (I := slC1 L M true (i : Int)) (sk := [2, 3, 5, 10, 84, 85, 86]) (hk := [0, 1, 2, 4, 5, 6, 8, 9]) (lk := []) (ex := .normal)
    (L := slC1 L M false (IntKind.i64.wrap ((i : Int) + 1))) (by kernel_rfl)
    (And.intro (show flat [Ch.e (ofR x)] ≠ flat [Ch.e (ofR y)] from fun e => h (flat_e_inj e))
    (And.intro (show y < 115792089237316195423570985008687907853269984665640564039457584007913129639936 from hs 1 y (pl_mem hy))
    (And.intro (nu_at (M 1) r y hy)
    (And.intro (show (r : Int) = ((r : Nat) : Int) ∧ r < (M 1).length from ⟨rfl, hk⟩)
    (And.intro (show x < 115792089237316195423570985008687907853269984665640564039457584007913129639936 from hs 0 x (pl_mem hx))
    (And.intro (nu_at (M 0) i x hx)
    (And.intro (show (i : Int) = ((i : Nat) : Int) ∧ i < (M 0).length from ⟨rfl, hj⟩)
    (And.intro (pl_at (L 0) i ((r : Int), (1 : Int)) hp)
    (And.intro (show (i : Int) = ((i : Nat) : Int) ∧ i < (L 0).length from ⟨rfl, hi⟩)
    (And.intro (show decide ((i : Int) < (((L 0).length : Nat) : Int)) = true from decide_eq_true (by omega)) trivial))))))))))
  rw [wrap_i64, show (if ((i : Int) + 1) % 18446744073709551616 < 9223372036854775808 then ((i : Int) + 1) % 18446744073709551616 else ((i : Int) + 1) % 18446744073709551616 - 18446744073709551616) = ((i + 1 : Nat) : Int) by omega] at hh
  exact hh
theorem sm0g2_ok (L : Nat → List (Int × Int)) (M : Nat → List Nat) (hm : (L 0).length ≤ 9223372036854775807) (hs : ∀ w x, x ∈ M w → x < 115792089237316195423570985008687907853269984665640564039457584007913129639936) (i r x y : Nat) (hp : (L 0)[i]? = some ((r : Int), (2 : Int))) (hx : (M 0)[i]? = some x) (hy : (M 2)[r]? = some y) (h : ofR x = ofR y) : Sound Try.prog 0 false (loopB Try.f8 4) (slC1 L M true (i : Int)).aa .normal (slC1 L M true ((i + 1 : Nat) : Int)).aa := by
  have hi := pl_lt hp
  have hj := pl_lt hx
  have hk := pl_lt hy
  have hh := roundK_sound (P := Try.prog) (X := rulesY _) (env := [eCleanS]) ⟨eCleanS_ok, trivial⟩ (n := 0) (os := oL [(27, wT), (29, rO 14 i), (30, { ch := 0, hi := fun _ => 0, ru := 8, cs := fun _ => [.c (.int .i64 (r : Int)), .c (.int .i64 2)] }), (40, rO 14 i), (41, { ch := 0, hi := fun _ => 0, ru := 8, cs := fun _ => [.n 4 x] }), (49, rO 14 r), (50, { ch := 0, hi := fun _ => 0, ru := 8, cs := fun _ => [.n 4 y] }), (52, wO 0)]) (fb := 0) (rd := false) (c := (loopB Try.f8 4)) (k := 27) (I := slC1 L M true (i : Int)) (sk := [2, 3, 5, 10, 84, 85, 86]) (hk := [0, 1, 2, 4, 5, 6, 8, 9]) (lk := []) (ex := .normal)
    (L := slC1 L M true (IntKind.i64.wrap ((i : Int) + 1))) (by kernel_rfl)
    (And.intro (show flat [Ch.e (ofR x)] = flat [Ch.e (ofR y)] from by rw [h])
    (And.intro (show y < 115792089237316195423570985008687907853269984665640564039457584007913129639936 from hs 2 y (pl_mem hy))
    (And.intro (nu_at (M 2) r y hy)
    (And.intro (show (r : Int) = ((r : Nat) : Int) ∧ r < (M 2).length from ⟨rfl, hk⟩)
    (And.intro (show x < 115792089237316195423570985008687907853269984665640564039457584007913129639936 from hs 0 x (pl_mem hx))
    (And.intro (nu_at (M 0) i x hx)
    (And.intro (show (i : Int) = ((i : Nat) : Int) ∧ i < (M 0).length from ⟨rfl, hj⟩)
    (And.intro (pl_at (L 0) i ((r : Int), (2 : Int)) hp)
    (And.intro (show (i : Int) = ((i : Nat) : Int) ∧ i < (L 0).length from ⟨rfl, hi⟩)
    (And.intro (show decide ((i : Int) < (((L 0).length : Nat) : Int)) = true from decide_eq_true (by omega)) trivial))))))))))
  rw [wrap_i64, show (if ((i : Int) + 1) % 18446744073709551616 < 9223372036854775808 then ((i : Int) + 1) % 18446744073709551616 else ((i : Int) + 1) % 18446744073709551616 - 18446744073709551616) = ((i + 1 : Nat) : Int) by omega] at hh
  exact hh
theorem sm0g2_no (L : Nat → List (Int × Int)) (M : Nat → List Nat) (hm : (L 0).length ≤ 9223372036854775807) (hs : ∀ w x, x ∈ M w → x < 115792089237316195423570985008687907853269984665640564039457584007913129639936) (i r x y : Nat) (hp : (L 0)[i]? = some ((r : Int), (2 : Int))) (hx : (M 0)[i]? = some x) (hy : (M 2)[r]? = some y) (h : ¬ ofR x = ofR y) : Sound Try.prog 0 false (loopB Try.f8 4) (slC1 L M true (i : Int)).aa .normal (slC1 L M false ((i + 1 : Nat) : Int)).aa := by
  have hi := pl_lt hp
  have hj := pl_lt hx
  have hk := pl_lt hy
  have hh := roundK_sound (P := Try.prog) (X := rulesY _) (env := [eCleanS]) ⟨eCleanS_ok, trivial⟩ (n := 0) (os := oL [(27, wT), (29, rO 14 i), (30, { ch := 0, hi := fun _ => 0, ru := 8, cs := fun _ => [.c (.int .i64 (r : Int)), .c (.int .i64 2)] }), (40, rO 14 i), (41, { ch := 0, hi := fun _ => 0, ru := 8, cs := fun _ => [.n 4 x] }), (49, rO 14 r), (50, { ch := 0, hi := fun _ => 0, ru := 8, cs := fun _ => [.n 4 y] }), (52, wO 1)]) (fb := 0) (rd := false) (c := (loopB Try.f8 4)) (k := 27) (I := slC1 L M true (i : Int)) (sk := [2, 3, 5, 10, 84, 85, 86]) (hk := [0, 1, 2, 4, 5, 6, 8, 9]) (lk := []) (ex := .normal)
    (L := slC1 L M false (IntKind.i64.wrap ((i : Int) + 1))) (by kernel_rfl)
    (And.intro (show flat [Ch.e (ofR x)] ≠ flat [Ch.e (ofR y)] from fun e => h (flat_e_inj e))
    (And.intro (show y < 115792089237316195423570985008687907853269984665640564039457584007913129639936 from hs 2 y (pl_mem hy))
    (And.intro (nu_at (M 2) r y hy)
    (And.intro (show (r : Int) = ((r : Nat) : Int) ∧ r < (M 2).length from ⟨rfl, hk⟩)
    (And.intro (show x < 115792089237316195423570985008687907853269984665640564039457584007913129639936 from hs 0 x (pl_mem hx))
    (And.intro (nu_at (M 0) i x hx)
    (And.intro (show (i : Int) = ((i : Nat) : Int) ∧ i < (M 0).length from ⟨rfl, hj⟩)
    (And.intro (pl_at (L 0) i ((r : Int), (2 : Int)) hp)
    (And.intro (show (i : Int) = ((i : Nat) : Int) ∧ i < (L 0).length from ⟨rfl, hi⟩)
    (And.intro (show decide ((i : Int) < (((L 0).length : Nat) : Int)) = true from decide_eq_true (by omega)) trivial))))))))))
  rw [wrap_i64, show (if ((i : Int) + 1) % 18446744073709551616 < 9223372036854775808 then ((i : Int) + 1) % 18446744073709551616 else ((i : Int) + 1) % 18446744073709551616 - 18446744073709551616) = ((i + 1 : Nat) : Int) by omega] at hh
  exact hh
theorem sm0g_0 (L : Nat → List (Int × Int)) (M : Nat → List Nat) (hm : (L 0).length ≤ 9223372036854775807) (i : Nat) (r q : Int) (hx : (L 0)[i]? = some (r, q))  : Sound Try.prog 0 false (loopB Try.f8 4) (slC1 L M false (i : Int)).aa .normal (slC1 L M false ((i + 1 : Nat) : Int)).aa := by
  have hi := pl_lt hx
  have hh := roundK_sound (P := Try.prog) (X := rulesY _) (env := [eCleanS]) ⟨eCleanS_ok, trivial⟩ (n := 0) (os := oL [(27, wT), (29, rO 14 i), (30, { ch := 0, hi := fun _ => 0, ru := 8, cs := fun _ => [.c (.int .i64 r), .c (.int .i64 q)] })]) (fb := 0) (rd := false) (c := (loopB Try.f8 4)) (k := 27) (I := slC1 L M false (i : Int)) (sk := [2, 3, 5, 10, 84, 85, 86]) (hk := [0, 1, 2, 4, 5, 6, 8, 9]) (lk := []) (ex := .normal)
    (L := slC1 L M false (IntKind.i64.wrap ((i : Int) + 1))) (by kernel_rfl)
    (And.intro (pl_at (L 0) i (r, q) hx)
    (And.intro (show (i : Int) = ((i : Nat) : Int) ∧ i < (L 0).length from ⟨rfl, hi⟩)
    (And.intro (show decide ((i : Int) < (((L 0).length : Nat) : Int)) = true from decide_eq_true (by omega)) trivial)))
  rw [wrap_i64, show (if ((i : Int) + 1) % 18446744073709551616 < 9223372036854775808 then ((i : Int) + 1) % 18446744073709551616 else ((i : Int) + 1) % 18446744073709551616 - 18446744073709551616) = ((i + 1 : Nat) : Int) by omega] at hh
  exact hh
theorem sm0g_end (L : Nat → List (Int × Int)) (M : Nat → List Nat) (b : Bool) : Sound Try.prog 0 false (loopB Try.f8 4) (slC1 L M b (((L 0).length : Nat) : Int)).aa (.exit 8) (slC L M b 0).aa := by
  have hh := roundK_sound (P := Try.prog) (X := rulesY _) (env := []) trivial (n := 0) (os := oL [(27, wF)]) (fb := 0) (rd := false) (c := (loopB Try.f8 4)) (k := 27) (I := slC1 L M b (((L 0).length : Nat) : Int)) (sk := [2, 3, 5, 10]) (hk := [0, 1, 2, 4, 5, 6, 8, 9]) (lk := []) (ex := (.exit 8))
    (L := slC L M b 0) (by kernel_rfl)
    (And.intro (show decide ((((L 0).length : Nat) : Int) < (((L 0).length : Nat) : Int)) = false from decide_eq_false (by omega)) trivial)
  exact hh
theorem sm0g_round (L : Nat → List (Int × Int)) (M : Nat → List Nat) (hm : (L 0).length ≤ 9223372036854775807) (hs : ∀ w x, x ∈ M w → x < 115792089237316195423570985008687907853269984665640564039457584007913129639936) (hr : ∀ w, w < 3 → rowOK L M w) (b : Bool) (i : Nat) (p : Int × Int) (hp : (L 0)[i]? = some p) : Sound Try.prog 0 false (loopB Try.f8 4) (slC1 L M b (i : Int)).aa .normal (slC1 L M (b && decide (sameAt M 0 i p)) ((i + 1 : Nat) : Int)).aa := by
  obtain ⟨r, q⟩ := p
  cases b with
  | false => exact sm0g_0 L M hm i r q hp
  | true =>
    rw [Bool.true_and]
    obtain ⟨g1, g2, g3, g4⟩ := (hr 0 (by omega)).2.2 _ (pl_mem hp)
    simp only at g1 g2 g3 g4
    obtain ⟨r, rfl⟩ := Int.eq_ofNat_of_zero_le g3
    obtain ⟨x, hx⟩ := pl_of (show i < (M 0).length by have := pl_lt hp; have := (hr 0 (by omega)).1; have := (hr 0 (by omega)).2.1; omega)
    have hq : q = 0 ∨ q = 1 ∨ q = 2 := by omega
    rcases hq with rfl | rfl | rfl
    · obtain ⟨y, hy⟩ := pl_of (show r < (M 0).length by have := (hr 0 (by omega)).2.1; omega)
      have e : sameAt M 0 i ((r : Int), (0 : Int)) ↔ ofR x = ofR y := by
        unfold sameAt
        rw [List.getD_eq_getElem?_getD, List.getD_eq_getElem?_getD, hx, show (((r : Int), (0 : Int)).2).toNat = 0 from rfl, show (((r : Int), (0 : Int)).1).toNat = r from rfl, hy]
        exact Iff.rfl
      by_cases h : ofR x = ofR y
      · rw [decide_eq_true (e.2 h)]; exact sm0g0_ok L M hm hs i r x y hp hx hy h
      · rw [decide_eq_false (fun h1 => h (e.1 h1))]; exact sm0g0_no L M hm hs i r x y hp hx hy h
    · obtain ⟨y, hy⟩ := pl_of (show r < (M 1).length by have := (hr 1 (by omega)).2.1; omega)
      have e : sameAt M 0 i ((r : Int), (1 : Int)) ↔ ofR x = ofR y := by
        unfold sameAt
        rw [List.getD_eq_getElem?_getD, List.getD_eq_getElem?_getD, hx, show (((r : Int), (1 : Int)).2).toNat = 1 from rfl, show (((r : Int), (1 : Int)).1).toNat = r from rfl, hy]
        exact Iff.rfl
      by_cases h : ofR x = ofR y
      · rw [decide_eq_true (e.2 h)]; exact sm0g1_ok L M hm hs i r x y hp hx hy h
      · rw [decide_eq_false (fun h1 => h (e.1 h1))]; exact sm0g1_no L M hm hs i r x y hp hx hy h
    · obtain ⟨y, hy⟩ := pl_of (show r < (M 2).length by have := (hr 2 (by omega)).2.1; omega)
      have e : sameAt M 0 i ((r : Int), (2 : Int)) ↔ ofR x = ofR y := by
        unfold sameAt
        rw [List.getD_eq_getElem?_getD, List.getD_eq_getElem?_getD, hx, show (((r : Int), (2 : Int)).2).toNat = 2 from rfl, show (((r : Int), (2 : Int)).1).toNat = r from rfl, hy]
        exact Iff.rfl
      by_cases h : ofR x = ofR y
      · rw [decide_eq_true (e.2 h)]; exact sm0g2_ok L M hm hs i r x y hp hx hy h
      · rw [decide_eq_false (fun h1 => h (e.1 h1))]; exact sm0g2_no L M hm hs i r x y hp hx hy h
theorem sm0g_all (L : Nat → List (Int × Int)) (M : Nat → List Nat) (hm : (L 0).length ≤ 9223372036854775807) (hs : ∀ w x, x ∈ M w → x < 115792089237316195423570985008687907853269984665640564039457584007913129639936) (hr : ∀ w, w < 3 → rowOK L M w) (b : Bool) : Sound Try.prog 0 false (.loop (loopB Try.f8 4)) (slC1 L M b 0).aa (.exit 8) (slC L M (b && samB M 0 (L 0) (L 0).length) 0).aa := by
  have hh := loop_ok (P := Try.prog) (fb := 0) (rd := false) (body := (loopB Try.f8 4)) (ex := .exit 8) (E := slC L M (b && samB M 0 (L 0) (L 0).length) 0) (m := fun y : { i : Nat // i ≤ (L 0).length } => (L 0).length - y.val) (fun y => slC1 L M (b && samB M 0 (L 0) y.val) (y.val : Int)) (by simp) (fun y => ?_) ⟨0, by omega⟩
  · simp only [samB, Bool.and_true] at hh
    exact hh
  obtain ⟨i, hi⟩ := y
  by_cases e : i < (L 0).length
  · obtain ⟨p, hp⟩ := pl_of e
    have h1 := sm0g_round L M hm hs hr (b && samB M 0 (L 0) i) i p hp
    rw [Bool.and_assoc, ← samB_succ hp] at h1
    exact .inl ⟨⟨i + 1, e⟩, by show (L 0).length - (i + 1) < (L 0).length - i; omega, h1⟩
  · have e : i = (L 0).length := by omega
    subst e
    exact .inr (sm0g_end L M _)
theorem sm0h_round (L : Nat → List (Int × Int)) (M : Nat → List Nat) (hm : ∀ w, (L w).length ≤ 9223372036854775807) (hs : ∀ w x, x ∈ M w → x < 115792089237316195423570985008687907853269984665640564039457584007913129639936) (hr : ∀ w, w < 3 → rowOK L M w) : Sound Try.prog 0 false (loopB Try.f8 3) (slC L M true 0).aa .normal (slC L M (true && (samB M 0 (L 0) (L 0).length)) 1).aa := by
  have hh := roundK_sound (P := Try.prog) (X := rulesY _) (env := []) trivial (n := 0) (os := oL [(27, lpO { I := slC1 L M true 0, ex := .exit 8, E := slC L M (true && (samB M 0 (L 0) (L 0).length)) 0, fr := 28 })]) (fb := 0) (rd := false) (c := (loopB Try.f8 3)) (k := 17) (I := slC L M true 0) (sk := [2, 3, 5, 10]) (hk := [0, 1, 2, 4, 5, 6, 8, 9]) (lk := []) (ex := .normal)
    (L := slC L M (true && (samB M 0 (L 0) (L 0).length)) 1) (by kernel_rfl)
    (And.intro (show some (slC1 L M true 0) = some (slC1 L M true 0) from rfl)
    (And.intro (sm0g_all L M (hm 0) hs hr true) trivial))
  exact hh
theorem sm0h_0 (L : Nat → List (Int × Int)) (M : Nat → List Nat) : Sound Try.prog 0 false (loopB Try.f8 3) (slC L M false 0).aa (.exit 6) (slX L M false).aa := by
  have hh := roundK_sound (P := Try.prog) (X := rulesY _) (env := []) trivial (n := 0) (os := oL []) (fb := 0) (rd := false) (c := (loopB Try.f8 3)) (k := 17) (I := slC L M false 0) (sk := [2, 3, 5]) (hk := [0, 1, 2, 4, 5, 6, 8, 9]) (lk := []) (ex := (.exit 6))
    (L := slX L M false) (by kernel_rfl)
    trivial
  exact hh
theorem sm1g0_ok (L : Nat → List (Int × Int)) (M : Nat → List Nat) (hm : (L 1).length ≤ 9223372036854775807) (hs : ∀ w x, x ∈ M w → x < 115792089237316195423570985008687907853269984665640564039457584007913129639936) (i r x y : Nat) (hp : (L 1)[i]? = some ((r : Int), (0 : Int))) (hx : (M 1)[i]? = some x) (hy : (M 0)[r]? = some y) (h : ofR x = ofR y) : Sound Try.prog 0 false (loopB Try.f8 4) (slC2 L M true (i : Int)).aa .normal (slC2 L M true ((i + 1 : Nat) : Int)).aa := by
  have hi := pl_lt hp
  have hj := pl_lt hx
  have hk := pl_lt hy
  have hh := roundK_sound (P := Try.prog) (X := rulesY _) (env := [eCleanS]) ⟨eCleanS_ok, trivial⟩ (n := 0) (os := oL [(27, wT), (29, rO 14 i), (30, { ch := 0, hi := fun _ => 0, ru := 8, cs := fun _ => [.c (.int .i64 (r : Int)), .c (.int .i64 0)] }), (40, rO 14 i), (41, { ch := 0, hi := fun _ => 0, ru := 8, cs := fun _ => [.n 4 x] }), (49, rO 14 r), (50, { ch := 0, hi := fun _ => 0, ru := 8, cs := fun _ => [.n 4 y] }), (52, wO 0)]) (fb := 0) (rd := false) (c := (loopB Try.f8 4)) (k := 27) (I := slC2 L M true (i : Int)) (sk := [2, 3, 5, 10, 84, 85, 86]) (hk := [0, 1, 2, 4, 5, 6, 8, 9]) (lk := []) (ex := .normal)
    (L := slC2 L M true (IntKind.i64.wrap ((i : Int) + 1))) (by kernel_rfl)
    (And.intro (show flat [Ch.e (ofR x)] = flat [Ch.e (ofR y)] from by rw [h])
    (And.intro (show y < 115792089237316195423570985008687907853269984665640564039457584007913129639936 from hs 0 y (pl_mem hy))
    (And.intro (nu_at (M 0) r y hy)
    (And.intro (show (r : Int) = ((r : Nat) : Int) ∧ r < (M 0).length from ⟨rfl, hk⟩)
    (And.intro (show x < 115792089237316195423570985008687907853269984665640564039457584007913129639936 from hs 1 x (pl_mem hx))
    (And.intro (nu_at (M 1) i x hx)
    (And.intro (show (i : Int) = ((i : Nat) : Int) ∧ i < (M 1).length from ⟨rfl, hj⟩)
    (And.intro (pl_at (L 1) i ((r : Int), (0 : Int)) hp)
    (And.intro (show (i : Int) = ((i : Nat) : Int) ∧ i < (L 1).length from ⟨rfl, hi⟩)
    (And.intro (show decide ((i : Int) < (((L 1).length : Nat) : Int)) = true from decide_eq_true (by omega)) trivial))))))))))
  rw [wrap_i64, show (if ((i : Int) + 1) % 18446744073709551616 < 9223372036854775808 then ((i : Int) + 1) % 18446744073709551616 else ((i : Int) + 1) % 18446744073709551616 - 18446744073709551616) = ((i + 1 : Nat) : Int) by omega] at hh
  exact hh
theorem sm1g0_no (L : Nat → List (Int × Int)) (M : Nat → List Nat) (hm : (L 1).length ≤ 9223372036854775807) (hs : ∀ w x, x ∈ M w → x < 115792089237316195423570985008687907853269984665640564039457584007913129639936) (i r x y : Nat) (hp : (L 1)[i]? = some ((r : Int), (0 : Int))) (hx : (M 1)[i]? = some x) (hy : (M 0)[r]? = some y) (h : ¬ ofR x = ofR y) : Sound Try.prog 0 false (loopB Try.f8 4) (slC2 L M true (i : Int)).aa .normal (slC2 L M false ((i + 1 : Nat) : Int)).aa := by
  have hi := pl_lt hp
  have hj := pl_lt hx
  have hk := pl_lt hy
  have hh := roundK_sound (P := Try.prog) (X := rulesY _) (env := [eCleanS]) ⟨eCleanS_ok, trivial⟩ (n := 0) (os := oL [(27, wT), (29, rO 14 i), (30, { ch := 0, hi := fun _ => 0, ru := 8, cs := fun _ => [.c (.int .i64 (r : Int)), .c (.int .i64 0)] }), (40, rO 14 i), (41, { ch := 0, hi := fun _ => 0, ru := 8, cs := fun _ => [.n 4 x] }), (49, rO 14 r), (50, { ch := 0, hi := fun _ => 0, ru := 8, cs := fun _ => [.n 4 y] }), (52, wO 1)]) (fb := 0) (rd := false) (c := (loopB Try.f8 4)) (k := 27) (I := slC2 L M true (i : Int)) (sk := [2, 3, 5, 10, 84, 85, 86]) (hk := [0, 1, 2, 4, 5, 6, 8, 9]) (lk := []) (ex := .normal)
    (L := slC2 L M false (IntKind.i64.wrap ((i : Int) + 1))) (by kernel_rfl)
    (And.intro (show flat [Ch.e (ofR x)] ≠ flat [Ch.e (ofR y)] from fun e => h (flat_e_inj e))
    (And.intro (show y < 115792089237316195423570985008687907853269984665640564039457584007913129639936 from hs 0 y (pl_mem hy))
    (And.intro (nu_at (M 0) r y hy)
    (And.intro (show (r : Int) = ((r : Nat) : Int) ∧ r < (M 0).length from ⟨rfl, hk⟩)
    (And.intro (show x < 115792089237316195423570985008687907853269984665640564039457584007913129639936 from hs 1 x (pl_mem hx))
    (And.intro (nu_at (M 1) i x hx)
    (And.intro (show (i : Int) = ((i : Nat) : Int) ∧ i < (M 1).length from ⟨rfl, hj⟩)
    (And.intro (pl_at (L 1) i ((r : Int), (0 : Int)) hp)
    (And.intro (show (i : Int) = ((i : Nat) : Int) ∧ i < (L 1).length from ⟨rfl, hi⟩)
    (And.intro (show decide ((i : Int) < (((L 1).length : Nat) : Int)) = true from decide_eq_true (by omega)) trivial))))))))))
  rw [wrap_i64, show (if ((i : Int) + 1) % 18446744073709551616 < 9223372036854775808 then ((i : Int) + 1) % 18446744073709551616 else ((i : Int) + 1) % 18446744073709551616 - 18446744073709551616) = ((i + 1 : Nat) : Int) by omega] at hh
  exact hh
theorem sm1g1_ok (L : Nat → List (Int × Int)) (M : Nat → List Nat) (hm : (L 1).length ≤ 9223372036854775807) (hs : ∀ w x, x ∈ M w → x < 115792089237316195423570985008687907853269984665640564039457584007913129639936) (i r x y : Nat) (hp : (L 1)[i]? = some ((r : Int), (1 : Int))) (hx : (M 1)[i]? = some x) (hy : (M 1)[r]? = some y) (h : ofR x = ofR y) : Sound Try.prog 0 false (loopB Try.f8 4) (slC2 L M true (i : Int)).aa .normal (slC2 L M true ((i + 1 : Nat) : Int)).aa := by
  have hi := pl_lt hp
  have hj := pl_lt hx
  have hk := pl_lt hy
  have hh := roundK_sound (P := Try.prog) (X := rulesY _) (env := [eCleanS]) ⟨eCleanS_ok, trivial⟩ (n := 0) (os := oL [(27, wT), (29, rO 14 i), (30, { ch := 0, hi := fun _ => 0, ru := 8, cs := fun _ => [.c (.int .i64 (r : Int)), .c (.int .i64 1)] }), (40, rO 14 i), (41, { ch := 0, hi := fun _ => 0, ru := 8, cs := fun _ => [.n 4 x] }), (49, rO 14 r), (50, { ch := 0, hi := fun _ => 0, ru := 8, cs := fun _ => [.n 4 y] }), (52, wO 0)]) (fb := 0) (rd := false) (c := (loopB Try.f8 4)) (k := 27) (I := slC2 L M true (i : Int)) (sk := [2, 3, 5, 10, 84, 85, 86]) (hk := [0, 1, 2, 4, 5, 6, 8, 9]) (lk := []) (ex := .normal)
    (L := slC2 L M true (IntKind.i64.wrap ((i : Int) + 1))) (by kernel_rfl)
    (And.intro (show flat [Ch.e (ofR x)] = flat [Ch.e (ofR y)] from by rw [h])
    (And.intro (show y < 115792089237316195423570985008687907853269984665640564039457584007913129639936 from hs 1 y (pl_mem hy))
    (And.intro (nu_at (M 1) r y hy)
    (And.intro (show (r : Int) = ((r : Nat) : Int) ∧ r < (M 1).length from ⟨rfl, hk⟩)
    (And.intro (show x < 115792089237316195423570985008687907853269984665640564039457584007913129639936 from hs 1 x (pl_mem hx))
    (And.intro (nu_at (M 1) i x hx)
    (And.intro (show (i : Int) = ((i : Nat) : Int) ∧ i < (M 1).length from ⟨rfl, hj⟩)
    (And.intro (pl_at (L 1) i ((r : Int), (1 : Int)) hp)
    (And.intro (show (i : Int) = ((i : Nat) : Int) ∧ i < (L 1).length from ⟨rfl, hi⟩)
    (And.intro (show decide ((i : Int) < (((L 1).length : Nat) : Int)) = true from decide_eq_true (by omega)) trivial))))))))))
  rw [wrap_i64, show (if ((i : Int) + 1) % 18446744073709551616 < 9223372036854775808 then ((i : Int) + 1) % 18446744073709551616 else ((i : Int) + 1) % 18446744073709551616 - 18446744073709551616) = ((i + 1 : Nat) : Int) by omega] at hh
  exact hh
theorem sm1g1_no (L : Nat → List (Int × Int)) (M : Nat → List Nat) (hm : (L 1).length ≤ 9223372036854775807) (hs : ∀ w x, x ∈ M w → x < 115792089237316195423570985008687907853269984665640564039457584007913129639936) (i r x y : Nat) (hp : (L 1)[i]? = some ((r : Int), (1 : Int))) (hx : (M 1)[i]? = some x) (hy : (M 1)[r]? = some y) (h : ¬ ofR x = ofR y) : Sound Try.prog 0 false (loopB Try.f8 4) (slC2 L M true (i : Int)).aa .normal (slC2 L M false ((i + 1 : Nat) : Int)).aa := by
  have hi := pl_lt hp
  have hj := pl_lt hx
  have hk := pl_lt hy
  have hh := roundK_sound (P := Try.prog) (X := rulesY _) (env := [eCleanS]) ⟨eCleanS_ok, trivial⟩ (n := 0) (os := oL [(27, wT), (29, rO 14 i), (30, { ch := 0, hi := fun _ => 0, ru := 8, cs := fun _ => [.c (.int .i64 (r : Int)), .c (.int .i64 1)] }), (40, rO 14 i), (41, { ch := 0, hi := fun _ => 0, ru := 8, cs := fun _ => [.n 4 x] }), (49, rO 14 r), (50, { ch := 0, hi := fun _ => 0, ru := 8, cs := fun _ => [.n 4 y] }), (52, wO 1)]) (fb := 0) (rd := false) (c := (loopB Try.f8 4)) (k := 27) (I := slC2 L M true (i : Int)) (sk := [2, 3, 5, 10, 84, 85, 86]) (hk := [0, 1, 2, 4, 5, 6, 8, 9]) (lk := []) (ex := .normal)
    (L := slC2 L M false (IntKind.i64.wrap ((i : Int) + 1))) (by kernel_rfl)
    (And.intro (show flat [Ch.e (ofR x)] ≠ flat [Ch.e (ofR y)] from fun e => h (flat_e_inj e))
    (And.intro (show y < 115792089237316195423570985008687907853269984665640564039457584007913129639936 from hs 1 y (pl_mem hy))
    (And.intro (nu_at (M 1) r y hy)
    (And.intro (show (r : Int) = ((r : Nat) : Int) ∧ r < (M 1).length from ⟨rfl, hk⟩)
    (And.intro (show x < 115792089237316195423570985008687907853269984665640564039457584007913129639936 from hs 1 x (pl_mem hx))
    (And.intro (nu_at (M 1) i x hx)
    (And.intro (show (i : Int) = ((i : Nat) : Int) ∧ i < (M 1).length from ⟨rfl, hj⟩)
    (And.intro (pl_at (L 1) i ((r : Int), (1 : Int)) hp)
    (And.intro (show (i : Int) = ((i : Nat) : Int) ∧ i < (L 1).length from ⟨rfl, hi⟩)
    (And.intro (show decide ((i : Int) < (((L 1).length : Nat) : Int)) = true from decide_eq_true (by omega)) trivial))))))))))
  rw [wrap_i64, show (if ((i : Int) + 1) % 18446744073709551616 < 9223372036854775808 then ((i : Int) + 1) % 18446744073709551616 else ((i : Int) + 1) % 18446744073709551616 - 18446744073709551616) = ((i + 1 : Nat) : Int) by omega] at hh
  exact hh
theorem sm1g2_ok (L : Nat → List (Int × Int)) (M : Nat → List Nat) (hm : (L 1).length ≤ 9223372036854775807) (hs : ∀ w x, x ∈ M w → x < 115792089237316195423570985008687907853269984665640564039457584007913129639936) (i r x y : Nat) (hp : (L 1)[i]? = some ((r : Int), (2 : Int))) (hx : (M 1)[i]? = some x) (hy : (M 2)[r]? = some y) (h : ofR x = ofR y) : Sound Try.prog 0 false (loopB Try.f8 4) (slC2 L M true (i : Int)).aa .normal (slC2 L M true ((i + 1 : Nat) : Int)).aa := by
  have hi := pl_lt hp
  have hj := pl_lt hx
  have hk := pl_lt hy
  have hh := roundK_sound (P := Try.prog) (X := rulesY _) (env := [eCleanS]) ⟨eCleanS_ok, trivial⟩ (n := 0) (os := oL [(27, wT), (29, rO 14 i), (30, { ch := 0, hi := fun _ => 0, ru := 8, cs := fun _ => [.c (.int .i64 (r : Int)), .c (.int .i64 2)] }), (40, rO 14 i), (41, { ch := 0, hi := fun _ => 0, ru := 8, cs := fun _ => [.n 4 x] }), (49, rO 14 r), (50, { ch := 0, hi := fun _ => 0, ru := 8, cs := fun _ => [.n 4 y] }), (52, wO 0)]) (fb := 0) (rd := false) (c := (loopB Try.f8 4)) (k := 27) (I := slC2 L M true (i : Int)) (sk := [2, 3, 5, 10, 84, 85, 86]) (hk := [0, 1, 2, 4, 5, 6, 8, 9]) (lk := []) (ex := .normal)
    (L := slC2 L M true (IntKind.i64.wrap ((i : Int) + 1))) (by kernel_rfl)
    (And.intro (show flat [Ch.e (ofR x)] = flat [Ch.e (ofR y)] from by rw [h])
    (And.intro (show y < 115792089237316195423570985008687907853269984665640564039457584007913129639936 from hs 2 y (pl_mem hy))
    (And.intro (nu_at (M 2) r y hy)
    (And.intro (show (r : Int) = ((r : Nat) : Int) ∧ r < (M 2).length from ⟨rfl, hk⟩)
    (And.intro (show x < 115792089237316195423570985008687907853269984665640564039457584007913129639936 from hs 1 x (pl_mem hx))
    (And.intro (nu_at (M 1) i x hx)
    (And.intro (show (i : Int) = ((i : Nat) : Int) ∧ i < (M 1).length from ⟨rfl, hj⟩)
    (And.intro (pl_at (L 1) i ((r : Int), (2 : Int)) hp)
    (And.intro (show (i : Int) = ((i : Nat) : Int) ∧ i < (L 1).length from ⟨rfl, hi⟩)
    (And.intro (show decide ((i : Int) < (((L 1).length : Nat) : Int)) = true from decide_eq_true (by omega)) trivial))))))))))
  rw [wrap_i64, show (if ((i : Int) + 1) % 18446744073709551616 < 9223372036854775808 then ((i : Int) + 1) % 18446744073709551616 else ((i : Int) + 1) % 18446744073709551616 - 18446744073709551616) = ((i + 1 : Nat) : Int) by omega] at hh
  exact hh
theorem sm1g2_no (L : Nat → List (Int × Int)) (M : Nat → List Nat) (hm : (L 1).length ≤ 9223372036854775807) (hs : ∀ w x, x ∈ M w → x < 115792089237316195423570985008687907853269984665640564039457584007913129639936) (i r x y : Nat) (hp : (L 1)[i]? = some ((r : Int), (2 : Int))) (hx : (M 1)[i]? = some x) (hy : (M 2)[r]? = some y) (h : ¬ ofR x = ofR y) : Sound Try.prog 0 false (loopB Try.f8 4) (slC2 L M true (i : Int)).aa .normal (slC2 L M false ((i + 1 : Nat) : Int)).aa := by
  have hi := pl_lt hp
  have hj := pl_lt hx
  have hk := pl_lt hy
  have hh := roundK_sound (P := Try.prog) (X := rulesY _) (env := [eCleanS]) ⟨eCleanS_ok, trivial⟩ (n := 0) (os := oL [(27, wT), (29, rO 14 i), (30, { ch := 0, hi := fun _ => 0, ru := 8, cs := fun _ => [.c (.int .i64 (r : Int)), .c (.int .i64 2)] }), (40, rO 14 i), (41, { ch := 0, hi := fun _ => 0, ru := 8, cs := fun _ => [.n 4 x] }), (49, rO 14 r), (50, { ch := 0, hi := fun _ => 0, ru := 8, cs := fun _ => [.n 4 y] }), (52, wO 1)]) (fb := 0) (rd := false) (c := (loopB Try.f8 4)) (k := 27) (I := slC2 L M true (i : Int)) (sk := [2, 3, 5, 10, 84, 85, 86]) (hk := [0, 1, 2, 4, 5, 6, 8, 9]) (lk := []) (ex := .normal)
    (L := slC2 L M false (IntKind.i64.wrap ((i : Int) + 1))) (by kernel_rfl)
    (And.intro (show flat [Ch.e (ofR x)] ≠ flat [Ch.e (ofR y)] from fun e => h (flat_e_inj e))
    (And.intro (show y < 115792089237316195423570985008687907853269984665640564039457584007913129639936 from hs 2 y (pl_mem hy))
    (And.intro (nu_at (M 2) r y hy)
    (And.intro (show (r : Int) = ((r : Nat) : Int) ∧ r < (M 2).length from ⟨rfl, hk⟩)
    (And.intro (show x < 115792089237316195423570985008687907853269984665640564039457584007913129639936 from hs 1 x (pl_mem hx))
    (And.intro (nu_at (M 1) i x hx)
    (And.intro (show (i : Int) = ((i : Nat) : Int) ∧ i < (M 1).length from ⟨rfl, hj⟩)
    (And.intro (pl_at (L 1) i ((r : Int), (2 : Int)) hp)
    (And.intro (show (i : Int) = ((i : Nat) : Int) ∧ i < (L 1).length from ⟨rfl, hi⟩)
    (And.intro (show decide ((i : Int) < (((L 1).length : Nat) : Int)) = true from decide_eq_true (by omega)) trivial))))))))))
  rw [wrap_i64, show (if ((i : Int) + 1) % 18446744073709551616 < 9223372036854775808 then ((i : Int) + 1) % 18446744073709551616 else ((i : Int) + 1) % 18446744073709551616 - 18446744073709551616) = ((i + 1 : Nat) : Int) by omega] at hh
  exact hh
theorem sm1g_0 (L : Nat → List (Int × Int)) (M : Nat → List Nat) (hm : (L 1).length ≤ 9223372036854775807) (i : Nat) (r q : Int) (hx : (L 1)[i]? = some (r, q))  : Sound Try.prog 0 false (loopB Try.f8 4) (slC2 L M false (i : Int)).aa .normal (slC2 L M false ((i + 1 : Nat) : Int)).aa := by
  have hi := pl_lt hx
  have hh := roundK_sound (P := Try.prog) (X := rulesY _) (env := [eCleanS]) ⟨eCleanS_ok, trivial⟩ (n := 0) (os := oL [(27, wT), (29, rO 14 i), (30, { ch := 0, hi := fun _ => 0, ru := 8, cs := fun _ => [.c (.int .i64 r), .c (.int .i64 q)] })]) (fb := 0) (rd := false) (c := (loopB Try.f8 4)) (k := 27) (I := slC2 L M false (i : Int)) (sk := [2, 3, 5, 10, 84, 85, 86]) (hk := [0, 1, 2, 4, 5, 6, 8, 9]) (lk := []) (ex := .normal)
    (L := slC2 L M false (IntKind.i64.wrap ((i : Int) + 1))) (by kernel_rfl)
    (And.intro (pl_at (L 1) i (r, q) hx)
    (And.intro (show (i : Int) = ((i : Nat) : Int) ∧ i < (L 1).length from ⟨rfl, hi⟩)
    (And.intro (show decide ((i : Int) < (((L 1).length : Nat) : Int)) = true from decide_eq_true (by omega)) trivial)))
  rw [wrap_i64, show (if ((i : Int) + 1) % 18446744073709551616 < 9223372036854775808 then ((i : Int) + 1) % 18446744073709551616 else ((i : Int) + 1) % 18446744073709551616 - 18446744073709551616) = ((i + 1 : Nat) : Int) by omega] at hh
  exact hh
theorem sm1g_end (L : Nat → List (Int × Int)) (M : Nat → List Nat) (b : Bool) : Sound Try.prog 0 false (loopB Try.f8 4) (slC2 L M b (((L 1).length : Nat) : Int)).aa (.exit 8) (slC L M b 1).aa := by
  have hh := roundK_sound (P := Try.prog) (X := rulesY _) (env := []) trivial (n := 0) (os := oL [(27, wF)]) (fb := 0) (rd := false) (c := (loopB Try.f8 4)) (k := 27) (I := slC2 L M b (((L 1).length : Nat) : Int)) (sk := [2, 3, 5, 10]) (hk := [0, 1, 2, 4, 5, 6, 8, 9]) (lk := []) (ex := (.exit 8))
    (L := slC L M b 1) (by kernel_rfl)
    (And.intro (show decide ((((L 1).length : Nat) : Int) < (((L 1).length : Nat) : Int)) = false from decide_eq_false (by omega)) trivial)
  exact hh
theorem sm1g_round (L : Nat → List (Int × Int)) (M : Nat → List Nat) (hm : (L 1).length ≤ 9223372036854775807) (hs : ∀ w x, x ∈ M w → x < 115792089237316195423570985008687907853269984665640564039457584007913129639936) (hr : ∀ w, w < 3 → rowOK L M w) (b : Bool) (i : Nat) (p : Int × Int) (hp : (L 1)[i]? = some p) : Sound Try.prog 0 false (loopB Try.f8 4) (slC2 L M b (i : Int)).aa .normal (slC2 L M (b && decide (sameAt M 1 i p)) ((i + 1 : Nat) : Int)).aa := by
  obtain ⟨r, q⟩ := p
  cases b with
  | false => exact sm1g_0 L M hm i r q hp
  | true =>
    rw [Bool.true_and]
    obtain ⟨g1, g2, g3, g4⟩ := (hr 1 (by omega)).2.2 _ (pl_mem hp)
    simp only at g1 g2 g3 g4
    obtain ⟨r, rfl⟩ := Int.eq_ofNat_of_zero_le g3
    obtain ⟨x, hx⟩ := pl_of (show i < (M 1).length by have := pl_lt hp; have := (hr 1 (by omega)).1; have := (hr 1 (by omega)).2.1; omega)
    have hq : q = 0 ∨ q = 1 ∨ q = 2 := by omega
    rcases hq with rfl | rfl | rfl
    · obtain ⟨y, hy⟩ := pl_of (show r < (M 0).length by have := (hr 0 (by omega)).2.1; omega)
      have e : sameAt M 1 i ((r : Int), (0 : Int)) ↔ ofR x = ofR y := by
        unfold sameAt
        rw [List.getD_eq_getElem?_getD, List.getD_eq_getElem?_getD, hx, show (((r : Int), (0 : Int)).2).toNat = 0 from rfl, show (((r : Int), (0 : Int)).1).toNat = r from rfl, hy]
        exact Iff.rfl
      by_cases h : ofR x = ofR y
      · rw [decide_eq_true (e.2 h)]; exact sm1g0_ok L M hm hs i r x y hp hx hy h
      · rw [decide_eq_false (fun h1 => h (e.1 h1))]; exact sm1g0_no L M hm hs i r x y hp hx hy h
    · obtain ⟨y, hy⟩ := pl_of (show r < (M 1).length by have := (hr 1 (by omega)).2.1; omega)
      have e : sameAt M 1 i ((r : Int), (1 : Int)) ↔ ofR x = ofR y := by
        unfold sameAt
        rw [List.getD_eq_getElem?_getD, List.getD_eq_getElem?_getD, hx, show (((r : Int), (1 : Int)).2).toNat = 1 from rfl, show (((r : Int), (1 : Int)).1).toNat = r from rfl, hy]
        exact Iff.rfl
      by_cases h : ofR x = ofR y
      · rw [decide_eq_true (e.2 h)]; exact sm1g1_ok L M hm hs i r x y hp hx hy h
      · rw [decide_eq_false (fun h1 => h (e.1 h1))]; exact sm1g1_no L M hm hs i r x y hp hx hy h
    · obtain ⟨y, hy⟩ := pl_of (show r < (M 2).length by have := (hr 2 (by omega)).2.1; omega)
      have e : sameAt M 1 i ((r : Int), (2 : Int)) ↔ ofR x = ofR y := by
        unfold sameAt
        rw [List.getD_eq_getElem?_getD, List.getD_eq_getElem?_getD, hx, show (((r : Int), (2 : Int)).2).toNat = 2 from rfl, show (((r : Int), (2 : Int)).1).toNat = r from rfl, hy]
        exact Iff.rfl
      by_cases h : ofR x = ofR y
      · rw [decide_eq_true (e.2 h)]; exact sm1g2_ok L M hm hs i r x y hp hx hy h
      · rw [decide_eq_false (fun h1 => h (e.1 h1))]; exact sm1g2_no L M hm hs i r x y hp hx hy h
theorem sm1g_all (L : Nat → List (Int × Int)) (M : Nat → List Nat) (hm : (L 1).length ≤ 9223372036854775807) (hs : ∀ w x, x ∈ M w → x < 115792089237316195423570985008687907853269984665640564039457584007913129639936) (hr : ∀ w, w < 3 → rowOK L M w) (b : Bool) : Sound Try.prog 0 false (.loop (loopB Try.f8 4)) (slC2 L M b 0).aa (.exit 8) (slC L M (b && samB M 1 (L 1) (L 1).length) 1).aa := by
  have hh := loop_ok (P := Try.prog) (fb := 0) (rd := false) (body := (loopB Try.f8 4)) (ex := .exit 8) (E := slC L M (b && samB M 1 (L 1) (L 1).length) 1) (m := fun y : { i : Nat // i ≤ (L 1).length } => (L 1).length - y.val) (fun y => slC2 L M (b && samB M 1 (L 1) y.val) (y.val : Int)) (by simp) (fun y => ?_) ⟨0, by omega⟩
  · simp only [samB, Bool.and_true] at hh
    exact hh
  obtain ⟨i, hi⟩ := y
  by_cases e : i < (L 1).length
  · obtain ⟨p, hp⟩ := pl_of e
    have h1 := sm1g_round L M hm hs hr (b && samB M 1 (L 1) i) i p hp
    rw [Bool.and_assoc, ← samB_succ hp] at h1
    exact .inl ⟨⟨i + 1, e⟩, by show (L 1).length - (i + 1) < (L 1).length - i; omega, h1⟩
  · have e : i = (L 1).length := by omega
    subst e
    exact .inr (sm1g_end L M _)
theorem sm1h_round (L : Nat → List (Int × Int)) (M : Nat → List Nat) (hm : ∀ w, (L w).length ≤ 9223372036854775807) (hs : ∀ w x, x ∈ M w → x < 115792089237316195423570985008687907853269984665640564039457584007913129639936) (hr : ∀ w, w < 3 → rowOK L M w) : Sound Try.prog 0 false (loopB Try.f8 3) (slC L M true 1).aa .normal (slC L M (true && (samB M 1 (L 1) (L 1).length)) 2).aa := by
  have hh := roundK_sound (P := Try.prog) (X := rulesY _) (env := []) trivial (n := 0) (os := oL [(27, lpO { I := slC2 L M true 0, ex := .exit 8, E := slC L M (true && (samB M 1 (L 1) (L 1).length)) 1, fr := 28 })]) (fb := 0) (rd := false) (c := (loopB Try.f8 3)) (k := 17) (I := slC L M true 1) (sk := [2, 3, 5, 10]) (hk := [0, 1, 2, 4, 5, 6, 8, 9]) (lk := []) (ex := .normal)
    (L := slC L M (true && (samB M 1 (L 1) (L 1).length)) 2) (by kernel_rfl)
    (And.intro (show some (slC2 L M true 0) = some (slC2 L M true 0) from rfl)
    (And.intro (sm1g_all L M (hm 1) hs hr true) trivial))
  exact hh
theorem sm1h_0 (L : Nat → List (Int × Int)) (M : Nat → List Nat) : Sound Try.prog 0 false (loopB Try.f8 3) (slC L M false 1).aa (.exit 6) (slX L M false).aa := by
  have hh := roundK_sound (P := Try.prog) (X := rulesY _) (env := []) trivial (n := 0) (os := oL []) (fb := 0) (rd := false) (c := (loopB Try.f8 3)) (k := 17) (I := slC L M false 1) (sk := [2, 3, 5]) (hk := [0, 1, 2, 4, 5, 6, 8, 9]) (lk := []) (ex := (.exit 6))
    (L := slX L M false) (by kernel_rfl)
    trivial
  exact hh
theorem sm2g0_ok (L : Nat → List (Int × Int)) (M : Nat → List Nat) (hm : (L 2).length ≤ 9223372036854775807) (hs : ∀ w x, x ∈ M w → x < 115792089237316195423570985008687907853269984665640564039457584007913129639936) (i r x y : Nat) (hp : (L 2)[i]? = some ((r : Int), (0 : Int))) (hx : (M 2)[i]? = some x) (hy : (M 0)[r]? = some y) (h : ofR x = ofR y) : Sound Try.prog 0 false (loopB Try.f8 4) (slC3 L M true (i : Int)).aa .normal (slC3 L M true ((i + 1 : Nat) : Int)).aa := by
  have hi := pl_lt hp
  have hj := pl_lt hx
  have hk := pl_lt hy
  have hh := roundK_sound (P := Try.prog) (X := rulesY _) (env := [eCleanS]) ⟨eCleanS_ok, trivial⟩ (n := 0) (os := oL [(27, wT), (29, rO 14 i), (30, { ch := 0, hi := fun _ => 0, ru := 8, cs := fun _ => [.c (.int .i64 (r : Int)), .c (.int .i64 0)] }), (40, rO 14 i), (41, { ch := 0, hi := fun _ => 0, ru := 8, cs := fun _ => [.n 4 x] }), (49, rO 14 r), (50, { ch := 0, hi := fun _ => 0, ru := 8, cs := fun _ => [.n 4 y] }), (52, wO 0)]) (fb := 0) (rd := false) (c := (loopB Try.f8 4)) (k := 27) (I := slC3 L M true (i : Int)) (sk := [2, 3, 5, 10, 84, 85, 86]) (hk := [0, 1, 2, 4, 5, 6, 8, 9]) (lk := []) (ex := .normal)
    (L := slC3 L M true (IntKind.i64.wrap ((i : Int) + 1))) (by kernel_rfl)
    (And.intro (show flat [Ch.e (ofR x)] = flat [Ch.e (ofR y)] from by rw [h])
    (And.intro (show y < 115792089237316195423570985008687907853269984665640564039457584007913129639936 from hs 0 y (pl_mem hy))
    (And.intro (nu_at (M 0) r y hy)
    (And.intro (show (r : Int) = ((r : Nat) : Int) ∧ r < (M 0).length from ⟨rfl, hk⟩)
    (And.intro (show x < 115792089237316195423570985008687907853269984665640564039457584007913129639936 from hs 2 x (pl_mem hx))
    (And.intro (nu_at (M 2) i x hx)
    (And.intro (show (i : Int) = ((i : Nat) : Int) ∧ i < (M 2).length from ⟨rfl, hj⟩)
    (And.intro (pl_at (L 2) i ((r : Int), (0 : Int)) hp)
    (And.intro (show (i : Int) = ((i : Nat) : Int) ∧ i < (L 2).length from ⟨rfl, hi⟩)
    (And.intro (show decide ((i : Int) < (((L 2).length : Nat) : Int)) = true from decide_eq_true (by omega)) trivial))))))))))
  rw [wrap_i64, show (if ((i : Int) + 1) % 18446744073709551616 < 9223372036854775808 then ((i : Int) + 1) % 18446744073709551616 else ((i : Int) + 1) % 18446744073709551616 - 18446744073709551616) = ((i + 1 : Nat) : Int) by omega] at hh
  exact hh
theorem sm2g0_no (L : Nat → List (Int × Int)) (M : Nat → List Nat) (hm : (L 2).length ≤ 9223372036854775807) (hs : ∀ w x, x ∈ M w → x < 115792089237316195423570985008687907853269984665640564039457584007913129639936) (i r x y : Nat) (hp : (L 2)[i]? = some ((r : Int), (0 : Int))) (hx : (M 2)[i]? = some x) (hy : (M 0)[r]? = some y) (h : ¬ ofR x = ofR y) : Sound Try.prog 0 false (loopB Try.f8 4) (slC3 L M true (i : Int)).aa .normal (slC3 L M false ((i + 1 : Nat) : Int)).aa := by
  have hi := pl_lt hp
  have hj := pl_lt hx
  have hk := pl_lt hy
  have hh := roundK_sound (P := Try.prog) (X := rulesY _) (env := [eCleanS]) ⟨eCleanS_ok, trivial⟩ (n := 0) (os := oL [(27, wT), (29, rO 14 i), (30, { ch := 0, hi := fun _ => 0, ru := 8, cs := fun _ => [.c (.int .i64 (r : Int)), .c (.int .i64 0)] }), (40, rO 14 i), (41, { ch := 0, hi := fun _ => 0, ru := 8, cs := fun _ => [.n 4 x] }), (49, rO 14 r), (50, { ch := 0, hi := fun _ => 0, ru := 8, cs := fun _ => [.n 4 y] }), (52, wO 1)]) (fb := 0) (rd := false) (c := (loopB Try.f8 4)) (k := 27) (I := slC3 L M true (i : Int)) (sk := [2, 3, 5, 10, 84, 85, 86]) (hk := [0, 1, 2, 4, 5, 6, 8, 9]) (lk := []) (ex := .normal)
    (L := slC3 L M false (IntKind.i64.wrap ((i : Int) + 1))) (by kernel_rfl)
    (And.intro (show flat [Ch.e (ofR x)] ≠ flat [Ch.e (ofR y)] from fun e => h (flat_e_inj e))
    (And.intro (show y < 115792089237316195423570985008687907853269984665640564039457584007913129639936 from hs 0 y (pl_mem hy))
    (And.intro (nu_at (M 0) r y hy)
    (And.intro (show (r : Int) = ((r : Nat) : Int) ∧ r < (M 0).length from ⟨rfl, hk⟩)
    (And.intro (show x < 115792089237316195423570985008687907853269984665640564039457584007913129639936 from hs 2 x (pl_mem hx))
    (And.intro (nu_at (M 2) i x hx)
    (And.intro (show (i : Int) = ((i : Nat) : Int) ∧ i < (M 2).length from ⟨rfl, hj⟩)
    (And.intro (pl_at (L 2) i ((r : Int), (0 : Int)) hp)
    (And.intro (show (i : Int) = ((i : Nat) : Int) ∧ i < (L 2).length from ⟨rfl, hi⟩)
    (And.intro (show decide ((i : Int) < (((L 2).length : Nat) : Int)) = true from decide_eq_true (by omega)) trivial))))))))))
  rw [wrap_i64, show (if ((i : Int) + 1) % 18446744073709551616 < 9223372036854775808 then ((i : Int) + 1) % 18446744073709551616 else ((i : Int) + 1) % 18446744073709551616 - 18446744073709551616) = ((i + 1 : Nat) : Int) by omega] at hh
  exact hh
theorem sm2g1_ok (L : Nat → List (Int × Int)) (M : Nat → List Nat) (hm : (L 2).length ≤ 9223372036854775807) (hs : ∀ w x, x ∈ M w → x < 115792089237316195423570985008687907853269984665640564039457584007913129639936) (i r x y : Nat) (hp : (L 2)[i]? = some ((r : Int), (1 : Int))) (hx : (M 2)[i]? = some x) (hy : (M 1)[r]? = some y) (h : ofR x = ofR y) : Sound Try.prog 0 false (loopB Try.f8 4) (slC3 L M true (i : Int)).aa .normal (slC3 L M true ((i + 1 : Nat) : Int)).aa := by
  have hi := pl_lt hp
  have hj := pl_lt hx
  have hk := pl_lt hy
  have hh := roundK_sound (P := Try.prog) (X := rulesY _) (env := [eCleanS]) ⟨eCleanS_ok, trivial⟩ (n := 0) (os := oL [(27, wT), (29, rO 14 i), (30, { ch := 0, hi := fun _ => 0, ru := 8, cs := fun _ => [.c (.int .i64 (r : Int)), .c (.int .i64 1)] }), (40, rO 14 i), (41, { ch := 0, hi := fun _ => 0, ru := 8, cs := fun _ => [.n 4 x] }), (49, rO 14 r), (50, { ch := 0, hi := fun _ => 0, ru := 8, cs := fun _ => [.n 4 y] }), (52, wO 0)]) (fb := 0) (rd := false) (c := (loopB Try.f8 4)) (k := 27) (I := slC3 L M true (i : Int)) (sk := [2, 3, 5, 10, 84, 85, 86]) (hk := [0, 1, 2, 4, 5, 6, 8, 9]) (lk := []) (ex := .normal)
    (L := slC3 L M true (IntKind.i64.wrap ((i : Int) + 1))) (by kernel_rfl)
    (And.intro (show flat [Ch.e (ofR x)] = flat [Ch.e (ofR y)] from by rw [h])
    (And.intro (show y < 115792089237316195423570985008687907853269984665640564039457584007913129639936 from hs 1 y (pl_mem hy))
    (And.intro (nu_at (M 1) r y hy)
    (And.intro (show (r : Int) = ((r : Nat) : Int) ∧ r < (M 1).length from ⟨rfl, hk⟩)
    (And.intro (show x < 115792089237316195423570985008687907853269984665640564039457584007913129639936 from hs 2 x (pl_mem hx))
    (And.intro (nu_at (M 2) i x hx)
    (And.intro (show (i : Int) = ((i : Nat) : Int) ∧ i < (M 2).length from ⟨rfl, hj⟩)
    (And.intro (pl_at (L 2) i ((r : Int), (1 : Int)) hp)
    (And.intro (show (i : Int) = ((i : Nat) : Int) ∧ i < (L 2).length from ⟨rfl, hi⟩)
    (And.intro (show decide ((i : Int) < (((L 2).length : Nat) : Int)) = true from decide_eq_true (by omega)) trivial))))))))))
  rw [wrap_i64, show (if ((i : Int) + 1) % 18446744073709551616 < 9223372036854775808 then ((i : Int) + 1) % 18446744073709551616 else ((i : Int) + 1) % 18446744073709551616 - 18446744073709551616) = ((i + 1 : Nat) : Int) by omega] at hh
  exact hh
theorem sm2g1_no (L : Nat → List (Int × Int)) (M : Nat → List Nat) (hm : (L 2).length ≤ 9223372036854775807) (hs : ∀ w x, x ∈ M w → x < 115792089237316195423570985008687907853269984665640564039457584007913129639936) (i r x y : Nat) (hp : (L 2)[i]? = some ((r : Int), (1 : Int))) (hx : (M 2)[i]? = some x) (hy : (M 1)[r]? = some y) (h : ¬ ofR x = ofR y) : Sound Try.prog 0 false (loopB Try.f8 4) (slC3 L M true (i : Int)).aa .normal (slC3 L M false ((i + 1 : Nat) : Int)).aa := by
  have hi := pl_lt hp
  have hj := pl_lt hx
  have hk := pl_lt hy
  have hh := roundK_sound (P := Try.prog) (X := rulesY _) (env := [eCleanS]) ⟨eCleanS_ok, trivial⟩ (n := 0) (os := oL [(27, wT), (29, rO 14 i), (30, { ch := 0, hi := fun _ => 0, ru := 8, cs := fun _ => [.c (.int .i64 (r : Int)), .c (.int .i64 1)] }), (40, rO 14 i), (41, { ch := 0, hi := fun _ => 0, ru := 8, cs := fun _ => [.n 4 x] }), (49, rO 14 r), (50, { ch := 0, hi := fun _ => 0, ru := 8, cs := fun _ => [.n 4 y] }), (52, wO 1)]) (fb := 0) (rd := false) (c := (loopB Try.f8 4)) (k := 27) (I := slC3 L M true (i : Int)) (sk := [2, 3, 5, 10, 84, 85, 86]) (hk := [0, 1, 2, 4, 5, 6, 8, 9]) (lk := []) (ex := .normal)
    (L := slC3 L M false (IntKind.i64.wrap ((i : Int) + 1))) (by kernel_rfl)
    (And.intro (show flat [Ch.e (ofR x)] ≠ flat [Ch.e (ofR y)] from fun e => h (flat_e_inj e))
    (And.intro (show y < 115792089237316195423570985008687907853269984665640564039457584007913129639936 from hs 1 y (pl_mem hy))
    (And.intro (nu_at (M 1) r y hy)
    (And.intro (show (r : Int) = ((r : Nat) : Int) ∧ r < (M 1).length from ⟨rfl, hk⟩)
    (And.intro (show x < 115792089237316195423570985008687907853269984665640564039457584007913129639936 from hs 2 x (pl_mem hx))
    (And.intro (nu_at (M 2) i x hx)
    (And.intro (show (i : Int) = ((i : Nat) : Int) ∧ i < (M 2).length from ⟨rfl, hj⟩)
    (And.intro (pl_at (L 2) i ((r : Int), (1 : Int)) hp)
    (And.intro (show (i : Int) = ((i : Nat) : Int) ∧ i < (L 2).length from ⟨rfl, hi⟩)
    (And.intro (show decide ((i : Int) < (((L 2).length : Nat) : Int)) = true from decide_eq_true (by omega)) trivial))))))))))
  rw [wrap_i64, show (if ((i : Int) + 1) % 18446744073709551616 < 9223372036854775808 then ((i : Int) + 1) % 18446744073709551616 else ((i : Int) + 1) % 18446744073709551616 - 18446744073709551616) = ((i + 1 : Nat) : Int) by omega] at hh
  exact hh
theorem sm2g2_ok (L : Nat → List (Int × Int)) (M : Nat → List Nat) (hm : (L 2).length ≤ 9223372036854775807) (hs : ∀ w x, x ∈ M w → x < 115792089237316195423570985008687907853269984665640564039457584007913129639936) (i r x y : Nat) (hp : (L 2)[i]? = some ((r : Int), (2 : Int))) (hx : (M 2)[i]? = some x) (hy : (M 2)[r]? = some y) (h : ofR x = ofR y) : Sound Try.prog 0 false (loopB Try.f8 4) (slC3 L M true (i : Int)).aa .normal (slC3 L M true ((i + 1 : Nat) : Int)).aa := by
  have hi := pl_lt hp
  have hj := pl_lt hx
  have hk := pl_lt hy
  have hh := roundK_sound (P := Try.prog) (X := rulesY _) (env := [eCleanS]) ⟨eCleanS_ok, trivial⟩ (n := 0) (os := oL [(27, wT), (29, rO 14 i), (30, { ch := 0, hi := fun _ => 0, ru := 8, cs := fun _ => [.c (.int .i64 (r : Int)), .c (.int .i64 2)] }), (40, rO 14 i), (41, { ch := 0, hi := fun _ => 0, ru := 8, cs := fun _ => [.n 4 x] }), (49, rO 14 r), (50, { ch := 0, hi := fun _ => 0, ru := 8, cs := fun _ => [.n 4 y] }), (52, wO 0)]) (fb := 0) (rd := false) (c := (loopB Try.f8 4)) (k := 27) (I := slC3 L M true (i : Int)) (sk := [2, 3, 5, 10, 84, 85, 86]) (hk := [0, 1, 2, 4, 5, 6, 8, 9]) (lk := []) (ex := .normal)
    (L := slC3 L M true (IntKind.i64.wrap ((i : Int) + 1))) (by kernel_rfl)
    (And.intro (show flat [Ch.e (ofR x)] = flat [Ch.e (ofR y)] from by rw [h])
    (And.intro (show y < 115792089237316195423570985008687907853269984665640564039457584007913129639936 from hs 2 y (pl_mem hy))
    (And.intro (nu_at (M 2) r y hy)
    (And.intro (show (r : Int) = ((r : Nat) : Int) ∧ r < (M 2).length from ⟨rfl, hk⟩)
    (And.intro (show x < 115792089237316195423570985008687907853269984665640564039457584007913129639936 from hs 2 x (pl_mem hx))
    (And.intro (nu_at (M 2) i x hx)
    (And.intro (show (i : Int) = ((i : Nat) : Int) ∧ i < (M 2).length from ⟨rfl, hj⟩)
    (And.intro (pl_at (L 2) i ((r : Int), (2 : Int)) hp)
    (And.intro (show (i : Int) = ((i : Nat) : Int) ∧ i < (L 2).length from ⟨rfl, hi⟩)
    (And.intro (show decide ((i : Int) < (((L 2).length : Nat) : Int)) = true from decide_eq_true (by omega)) trivial))))))))))
  rw [wrap_i64, show (if ((i : Int) + 1) % 18446744073709551616 < 9223372036854775808 then ((i : Int) + 1) % 18446744073709551616 else ((i : Int) + 1) % 18446744073709551616 - 18446744073709551616) = ((i + 1 : Nat) : Int) by omega] at hh
  exact hh
theorem sm2g2_no (L : Nat → List (Int × Int)) (M : Nat → List Nat) (hm : (L 2).length ≤ 9223372036854775807) (hs : ∀ w x, x ∈ M w → x < 115792089237316195423570985008687907853269984665640564039457584007913129639936) (i r x y : Nat) (hp : (L 2)[i]? = some ((r : Int), (2 : Int))) (hx : (M 2)[i]? = some x) (hy : (M 2)[r]? = some y) (h : ¬ ofR x = ofR y) : Sound Try.prog 0 false (loopB Try.f8 4) (slC3 L M true (i : Int)).aa .normal (slC3 L M false ((i + 1 : Nat) : Int)).aa := by
  have hi := pl_lt hp
  have hj := pl_lt hx
  have hk := pl_lt hy
  have hh := roundK_sound (P := Try.prog) (X := rulesY _) (env := [eCleanS]) ⟨eCleanS_ok, trivial⟩ (n := 0) (os := oL [(27, wT), (29, rO 14 i), (30, { ch := 0, hi := fun _ => 0, ru := 8, cs := fun _ => [.c (.int .i64 (r : Int)), .c (.int .i64 2)] }), (40, rO 14 i), (41, { ch := 0, hi := fun _ => 0, ru := 8, cs := fun _ => [.n 4 x] }), (49, rO 14 r), (50, { ch := 0, hi := fun _ => 0, ru := 8, cs := fun _ => [.n 4 y] }), (52, wO 1)]) (fb := 0) (rd := false) (c := (loopB Try.f8 4)) (k := 27) (I := slC3 L M true (i : Int)) (sk := [2, 3, 5, 10, 84, 85, 86]) (hk := [0, 1, 2, 4, 5, 6, 8, 9]) (lk := []) (ex := .normal)
    (L := slC3 L M false (IntKind.i64.wrap ((i : Int) + 1))) (by kernel_rfl)
    (And.intro (show flat [Ch.e (ofR x)] ≠ flat [Ch.e (ofR y)] from fun e => h (flat_e_inj e))
    (And.intro (show y < 115792089237316195423570985008687907853269984665640564039457584007913129639936 from hs 2 y (pl_mem hy))
    (And.intro (nu_at (M 2) r y hy)
    (And.intro (show (r : Int) = ((r : Nat) : Int) ∧ r < (M 2).length from ⟨rfl, hk⟩)
    (And.intro (show x < 115792089237316195423570985008687907853269984665640564039457584007913129639936 from hs 2 x (pl_mem hx))
    (And.intro (nu_at (M 2) i x hx)
    (And.intro (show (i : Int) = ((i : Nat) : Int) ∧ i < (M 2).length from ⟨rfl, hj⟩)
    (And.intro (pl_at (L 2) i ((r : Int), (2 : Int)) hp)
    (And.intro (show (i : Int) = ((i : Nat) : Int) ∧ i < (L 2).length from ⟨rfl, hi⟩)
    (And.intro (show decide ((i : Int) < (((L 2).length : Nat) : Int)) = true from decide_eq_true (by omega)) trivial))))))))))
  rw [wrap_i64, show (if ((i : Int) + 1) % 18446744073709551616 < 9223372036854775808 then ((i : Int) + 1) % 18446744073709551616 else ((i : Int) + 1) % 18446744073709551616 - 18446744073709551616) = ((i + 1 : Nat) : Int) by omega] at hh
  exact hh
theorem sm2g_0 (L : Nat → List (Int × Int)) (M : Nat → List Nat) (hm : (L 2).length ≤ 9223372036854775807) (i : Nat) (r q : Int) (hx : (L 2)[i]? = some (r, q))  : Sound Try.prog 0 false (loopB Try.f8 4) (slC3 L M false (i : Int)).aa .normal (slC3 L M false ((i + 1 : Nat) : Int)).aa := by
  have hi := pl_lt hx
  have hh := roundK_sound (P := Try.prog) (X := rulesY _) (env := [eCleanS]) ⟨eCleanS_ok, trivial⟩ (n := 0) (os := oL [(27, wT), (29, rO 14 i), (30, { ch := 0, hi := fun _ => 0, ru := 8, cs := fun _ => [.c (.int .i64 r), .c (.int .i64 q)] })]) (fb := 0) (rd := false) (c := (loopB Try.f8 4)) (k := 27) (I := slC3 L M false (i : Int)) (sk := [2, 3, 5, 10, 84, 85, 86]) (hk := [0, 1, 2, 4, 5, 6, 8, 9]) (lk := []) (ex := .normal)
    (L := slC3 L M false (IntKind.i64.wrap ((i : Int) + 1))) (by kernel_rfl)
    (And.intro (pl_at (L 2) i (r, q) hx)
    (And.intro (show (i : Int) = ((i : Nat) : Int) ∧ i < (L 2).length from ⟨rfl, hi⟩)
    (And.intro (show decide ((i : Int) < (((L 2).length : Nat) : Int)) = true from decide_eq_true (by omega)) trivial)))
  rw [wrap_i64, show (if ((i : Int) + 1) % 18446744073709551616 < 9223372036854775808 then ((i : Int) + 1) % 18446744073709551616 else ((i : Int) + 1) % 18446744073709551616 - 18446744073709551616) = ((i + 1 : Nat) : Int) by omega] at hh
  exact hh
theorem sm2g_end (L : Nat → List (Int × Int)) (M : Nat → List Nat) (b : Bool) : Sound Try.prog 0 false (loopB Try.f8 4) (slC3 L M b (((L 2).length : Nat) : Int)).aa (.exit 8) (slC L M b 2).aa := by
  have hh := roundK_sound (P := Try.prog) (X := rulesY _) (env := []) trivial (n := 0) (os := oL [(27, wF)]) (fb := 0) (rd := false) (c := (loopB Try.f8 4)) (k := 27) (I := slC3 L M b (((L 2).length : Nat) : Int)) (sk := [2, 3, 5, 10]) (hk := [0, 1, 2, 4, 5, 6, 8, 9]) (lk := []) (ex := (.exit 8))
    (L := slC L M b 2) (by kernel_rfl)
    (And.intro (show decide ((((L 2).length : Nat) : Int) < (((L 2).length : Nat) : Int)) = false from decide_eq_false (by omega)) trivial)
  exact hh
theorem sm2g_round (L : Nat → List (Int × Int)) (M : Nat → List Nat) (hm : (L 2).length ≤ 9223372036854775807) (hs : ∀ w x, x ∈ M w → x < 115792089237316195423570985008687907853269984665640564039457584007913129639936) (hr : ∀ w, w < 3 → rowOK L M w) (b : Bool) (i : Nat) (p : Int × Int) (hp : (L 2)[i]? = some p) : Sound Try.prog 0 false (loopB Try.f8 4) (slC3 L M b (i : Int)).aa .normal (slC3 L M (b && decide (sameAt M 2 i p)) ((i + 1 : Nat) : Int)).aa := by
  obtain ⟨r, q⟩ := p
  cases b with
  | false => exact sm2g_0 L M hm i r q hp
  | true =>
    rw [Bool.true_and]
    obtain ⟨g1, g2, g3, g4⟩ := (hr 2 (by omega)).2.2 _ (pl_mem hp)
    simp only at g1 g2 g3 g4
    obtain ⟨r, rfl⟩ := Int.eq_ofNat_of_zero_le g3
    obtain ⟨x, hx⟩ := pl_of (show i < (M 2).length by have := pl_lt hp; have := (hr 2 (by omega)).1; have := (hr 2 (by omega)).2.1; omega)
    have hq : q = 0 ∨ q = 1 ∨ q = 2 := by omega
    rcases hq with rfl | rfl | rfl
    · obtain ⟨y, hy⟩ := pl_of (show r < (M 0).length by have := (hr 0 (by omega)).2.1; omega)
      have e : sameAt M 2 i ((r : Int), (0 : Int)) ↔ ofR x = ofR y := by
        unfold sameAt
        rw [List.getD_eq_getElem?_getD, List.getD_eq_getElem?_getD, hx, show (((r : Int), (0 : Int)).2).toNat = 0 from rfl, show (((r : Int), (0 : Int)).1).toNat = r from rfl, hy]
        exact Iff.rfl
      by_cases h : ofR x = ofR y
      · rw [decide_eq_true (e.2 h)]; exact sm2g0_ok L M hm hs i r x y hp hx hy h
      · rw [decide_eq_false (fun h1 => h (e.1 h1))]; exact sm2g0_no L M hm hs i r x y hp hx hy h
    · obtain ⟨y, hy⟩ := pl_of (show r < (M 1).length by have := (hr 1 (by omega)).2.1; omega)
      have e : sameAt M 2 i ((r : Int), (1 : Int)) ↔ ofR x = ofR y := by
        unfold sameAt
        rw [List.getD_eq_getElem?_getD, List.getD_eq_getElem?_getD, hx, show (((r : Int), (1 : Int)).2).toNat = 1 from rfl, show (((r : Int), (1 : Int)).1).toNat = r from rfl, hy]
        exact Iff.rfl
      by_cases h : ofR x = ofR y
      · rw [decide_eq_true (e.2 h)]; exact sm2g1_ok L M hm hs i r x y hp hx hy h
      · rw [decide_eq_false (fun h1 => h (e.1 h1))]; exact sm2g1_no L M hm hs i r x y hp hx hy h
    · obtain ⟨y, hy⟩ := pl_of (show r < (M 2).length by have := (hr 2 (by omega)).2.1; omega)
      have e : sameAt M 2 i ((r : Int), (2 : Int)) ↔ ofR x = ofR y := by
        unfold sameAt
        rw [List.getD_eq_getElem?_getD, List.getD_eq_getElem?_getD, hx, show (((r : Int), (2 : Int)).2).toNat = 2 from rfl, show (((r : Int), (2 : Int)).1).toNat = r from rfl, hy]
        exact Iff.rfl
      by_cases h : ofR x = ofR y
      · rw [decide_eq_true (e.2 h)]; exact sm2g2_ok L M hm hs i r x y hp hx hy h
      · rw [decide_eq_false (fun h1 => h (e.1 h1))]; exact sm2g2_no L M hm hs i r x y hp hx hy h
theorem sm2g_all (L : Nat → List (Int × Int)) (M : Nat → List Nat) (hm : (L 2).length ≤ 9223372036854775807) (hs : ∀ w x, x ∈ M w → x < 115792089237316195423570985008687907853269984665640564039457584007913129639936) (hr : ∀ w, w < 3 → rowOK L M w) (b : Bool) : Sound Try.prog 0 false (.loop (loopB Try.f8 4)) (slC3 L M b 0).aa (.exit 8) (slC L M (b && samB M 2 (L 2) (L 2).length) 2).aa := by
  have hh := loop_ok (P := Try.prog) (fb := 0) (rd := false) (body := (loopB Try.f8 4)) (ex := .exit 8) (E := slC L M (b && samB M 2 (L 2) (L 2).length) 2) (m := fun y : { i : Nat // i ≤ (L 2).length } => (L 2).length - y.val) (fun y => slC3 L M (b && samB M 2 (L 2) y.val) (y.val : Int)) (by simp) (fun y => ?_) ⟨0, by omega⟩
  · simp only [samB, Bool.and_true] at hh
    exact hh
  obtain ⟨i, hi⟩ := y
  by_cases e : i < (L 2).length
  · obtain ⟨p, hp⟩ := pl_of e
    have h1 := sm2g_round L M hm hs hr (b && samB M 2 (L 2) i) i p hp
    rw [Bool.and_assoc, ← samB_succ hp] at h1
    exact .inl ⟨⟨i + 1, e⟩, by show (L 2).length - (i + 1) < (L 2).length - i; omega, h1⟩
  · have e : i = (L 2).length := by omega
    subst e
    exact .inr (sm2g_end L M _)
theorem sm2h_round (L : Nat → List (Int × Int)) (M : Nat → List Nat) (hm : ∀ w, (L w).length ≤ 9223372036854775807) (hs : ∀ w x, x ∈ M w → x < 115792089237316195423570985008687907853269984665640564039457584007913129639936) (hr : ∀ w, w < 3 → rowOK L M w) : Sound Try.prog 0 false (loopB Try.f8 3) (slC L M true 2).aa .normal (slC L M (true && (samB M 2 (L 2) (L 2).length)) 3).aa := by
  have hh := roundK_sound (P := Try.prog) (X := rulesY _) (env := []) trivial (n := 0) (os := oL [(27, lpO { I := slC3 L M true 0, ex := .exit 8, E := slC L M (true && (samB M 2 (L 2) (L 2).length)) 2, fr := 28 })]) (fb := 0) (rd := false) (c := (loopB Try.f8 3)) (k := 17) (I := slC L M true 2) (sk := [2, 3, 5, 10]) (hk := [0, 1, 2, 4, 5, 6, 8, 9]) (lk := []) (ex := .normal)
    (L := slC L M (true && (samB M 2 (L 2) (L 2).length)) 3) (by kernel_rfl)
    (And.intro (show some (slC3 L M true 0) = some (slC3 L M true 0) from rfl)
    (And.intro (sm2g_all L M (hm 2) hs hr true) trivial))
  exact hh
theorem sm2h_0 (L : Nat → List (Int × Int)) (M : Nat → List Nat) : Sound Try.prog 0 false (loopB Try.f8 3) (slC L M false 2).aa (.exit 6) (slX L M false).aa := by
  have hh := roundK_sound (P := Try.prog) (X := rulesY _) (env := []) trivial (n := 0) (os := oL []) (fb := 0) (rd := false) (c := (loopB Try.f8 3)) (k := 17) (I := slC L M false 2) (sk := [2, 3, 5]) (hk := [0, 1, 2, 4, 5, 6, 8, 9]) (lk := []) (ex := (.exit 6))
    (L := slX L M false) (by kernel_rfl)
    trivial
  exact hh
theorem smh_end (L : Nat → List (Int × Int)) (M : Nat → List Nat) (b : Bool) : Sound Try.prog 0 false (loopB Try.f8 3) (slC L M b 3).aa (.exit 6) (slX L M b).aa := by
  have hh := roundK_sound (P := Try.prog) (X := rulesY _) (env := []) trivial (n := 0) (os := oL []) (fb := 0) (rd := false) (c := (loopB Try.f8 3)) (k := 17) (I := slC L M b 3) (sk := [2, 3, 5]) (hk := [0, 1, 2, 4, 5, 6, 8, 9]) (lk := []) (ex := (.exit 6))
    (L := slX L M b) (by kernel_rfl)
    trivial
  exact hh
theorem smh_round (L : Nat → List (Int × Int)) (M : Nat → List Nat) (hm : ∀ w, (L w).length ≤ 9223372036854775807)  (hs : ∀ w x, x ∈ M w → x < 115792089237316195423570985008687907853269984665640564039457584007913129639936) (hr : ∀ w, w < 3 → rowOK L M w) (w : Nat) (hw : w < 3) : Sound Try.prog 0 false (loopB Try.f8 3) (slC L M true (w : Int)).aa .normal (slC L M (samB M w (L w) (L w).length) ((w + 1 : Nat) : Int)).aa := by
  match w, hw with
  | 0, _ => exact sm0h_round L M hm hs hr
  | 1, _ => exact sm1h_round L M hm hs hr
  | 2, _ => exact sm2h_round L M hm hs hr
theorem smh_0 (L : Nat → List (Int × Int)) (M : Nat → List Nat) (w : Nat) (hw : w < 3) : Sound Try.prog 0 false (loopB Try.f8 3) (slC L M false (w : Int)).aa (.exit 6) (slX L M false).aa := by
  match w, hw with
  | 0, _ => exact sm0h_0 L M
  | 1, _ => exact sm1h_0 L M
  | 2, _ => exact sm2h_0 L M
theorem sam_iff (M : Nat → List Nat) (w : Nat) (l : List (Int × Int)) : samB M w l l.length = true ↔ ∀ i p, l[i]? = some p → sameAt M w i p := by
  rw [samB_iff]
  exact ⟨fun h i p hp => h i p (pl_lt hp) hp, fun h i p _ hp => h i p hp⟩
theorem smh_all (L : Nat → List (Int × Int)) (M : Nat → List Nat) (hm : ∀ w, (L w).length ≤ 9223372036854775807)  (hs : ∀ w x, x ∈ M w → x < 115792089237316195423570985008687907853269984665640564039457584007913129639936) (hr : ∀ w, w < 3 → rowOK L M w) (h : ∀ w, w < 3 → rowEq L M w) : Sound Try.prog 0 false (.loop (loopB Try.f8 3)) (slC L M true 0).aa (.exit 6) (slX L M true).aa := by
  refine loop_ok (m := fun y : { i : Nat // i ≤ 3 } => 3 - y.val) (fun y => slC L M true (y.val : Int)) (by simp) (fun y => ?_) ⟨0, by omega⟩
  obtain ⟨i, hi⟩ := y
  by_cases e : i < 3
  · have h1 := smh_round L M hm hs hr i e
    rw [(sam_iff M i (L i)).2 (h i e)] at h1
    exact .inl ⟨⟨i + 1, e⟩, by show 3 - (i + 1) < 3 - i; omega, h1⟩
  · have e : i = 3 := by omega
    subst e
    exact .inr (smh_end L M _)
theorem smh_no (L : Nat → List (Int × Int)) (M : Nat → List Nat) (hm : ∀ w, (L w).length ≤ 9223372036854775807)  (hs : ∀ w x, x ∈ M w → x < 115792089237316195423570985008687907853269984665640564039457584007913129639936) (hr : ∀ w, w < 3 → rowOK L M w) (h : ¬ ∀ w, w < 3 → rowEq L M w) : Sound Try.prog 0 false (.loop (loopB Try.f8 3)) (slC L M true 0).aa (.exit 6) (slX L M false).aa := by
  rcases first3 (rowEq L M) with h1 | ⟨j, hj, h1, h3⟩
  · exact absurd h1 h
  refine loop_ok (m := fun y : { y : Bool × Nat // y.2 ≤ 3 ∧ ((y.1 = true ∧ y.2 ≤ j) ∨ (y.1 = false ∧ y.2 = j + 1)) } => 3 - y.val.2) (fun y => slC L M y.val.1 (y.val.2 : Int)) (by simp) (fun y => ?_) ⟨(true, 0), by simp⟩
  obtain ⟨⟨b, i⟩, hi, hy⟩ := y
  simp only at hi hy
  rcases hy with ⟨rfl, hy⟩ | ⟨rfl, hy⟩
  · by_cases e : i < j
    · have h2 := smh_round L M hm hs hr i (by omega)
      rw [(sam_iff M i (L i)).2 (h3 i e)] at h2
      exact .inl ⟨⟨(true, i + 1), by show i + 1 ≤ 3; omega, .inl ⟨rfl, e⟩⟩, by show 3 - (i + 1) < 3 - i; omega, h2⟩
    · have e : i = j := by omega
      subst e
      have h2 := smh_round L M hm hs hr i hj
      have h4 : samB M i (L i) (L i).length = false := by
        cases hb : samB M i (L i) (L i).length with
        | false => rfl
        | true => exact absurd ((sam_iff M i (L i)).1 hb) h1
      rw [h4] at h2
      exact .inl ⟨⟨(false, i + 1), by show i + 1 ≤ 3; omega, .inr ⟨rfl, rfl⟩⟩, by show 3 - (i + 1) < 3 - i; omega, h2⟩
  · by_cases e : i < 3
    · exact .inr (smh_0 L M i e)
    · have e : i = 3 := by omega
      subst e
      exact .inr (smh_end L M _)
theorem smh_z (L : Nat → List (Int × Int)) (M : Nat → List Nat) : Sound Try.prog 0 false (loopB Try.f8 3) (slC L M false 0).aa (.exit 6) (slX L M false).aa := by
  have hh := roundK_sound (P := Try.prog) (X := rulesY _) (env := []) trivial (n := 0) (os := oL []) (fb := 0) (rd := false) (c := (loopB Try.f8 3)) (k := 17) (I := slC L M false 0) (sk := [2, 3, 5]) (hk := [0, 1, 2, 4, 5, 6, 8, 9]) (lk := []) (ex := (.exit 6))
    (L := slX L M false) (by kernel_rfl)
    trivial
  exact hh
theorem smh_zz (L : Nat → List (Int × Int)) (M : Nat → List Nat) : Sound Try.prog 0 false (.loop (loopB Try.f8 3)) (slC L M false 0).aa (.exit 6) (slX L M false).aa :=
  loop_ok (m := fun _ : Unit => 0) (fun _ => slC L M false 0) (by simp) (fun _ => .inr (smh_z L M)) ()
theorem ss_yes (L : Nat → List (Int × Int)) (M : Nat → List Nat) (hm : ∀ w, (L w).length ≤ 9223372036854775807) (hs : ∀ w x, x ∈ M w → x < 115792089237316195423570985008687907853269984665640564039457584007913129639936) (b1 : Bool) (h1 : Sound Try.prog 0 false (.loop (loopB Try.f8 0)) (slA L M true 0).aa (.exit 0) (slX L M b1).aa) (h2 : Sound Try.prog 0 false (.loop (loopB Try.f8 1)) (slB L M b1 0).aa (.exit 2) (slX L M true).aa) (hr : ∀ w, w < 3 → rowOK L M w) (h : ∀ w, w < 3 → rowEq L M w) : Gives Try.prog 8 [.ags [.z [.l (plC (L 0))] (L 0).length, .z [.l (plC (L 1))] (L 1).length, .z [.l (plC (L 2))] (L 2).length], .ags [.z [.l (numC 4 (M 0))] (M 0).length, .z [.l (numC 4 (M 1))] (M 1).length, .z [.l (numC 4 (M 2))] (M 2).length]] (.v (.bool true)) :=
  fn_gives_at (P := Try.prog) (X := rulesY _) (env := [eAl19]) ⟨eAl19_ok, trivial⟩ Try.func8 0 (oL [(13, lpO { I := slA L M true 0, ex := .exit 0, E := slX L M b1, fr := 14 }), (15, lpO { I := slB L M b1 0, ex := .exit 2, E := slX L M true, fr := 16 }), (17, lpO { I := slC L M true 0, ex := .exit 6, E := slX L M true, fr := 18 }), (22, { ch := 0, hi := fun _ => 0, ex := 7, av := fun _ => .v (.bool true) })]) (by kernel_rfl) ⟨_, rfl⟩
    (And.intro (show GivesE Try.prog 30 [.ags [.z [.l (plC (L 0))] (L 0).length, .z [.l (plC (L 1))] (L 1).length, .z [.l (plC (L 2))] (L 2).length], .ags [.z [.l (numC 4 (M 0))] (M 0).length, .z [.l (numC 4 (M 1))] (M 1).length, .z [.l (numC 4 (M 2))] (M 2).length]] (.v (.bool true)) from ⟨fun vs w => Go.Proofs.enters_of (P := Try.prog) Try.func30 (by kernel_rfl) rfl vs w, same_yes L M hm hs hr h⟩)
    (And.intro (show some (slC L M true 0) = some (slC L M true 0) from rfl)
    (And.intro (smh_all L M hm hs hr h)
    (And.intro (show some (slB L M b1 0) = some (slB L M b1 0) from rfl)
    (And.intro (h2)
    (And.intro (show some (slA L M true 0) = some (slA L M true 0) from rfl)
    (And.intro (h1) trivial)))))))
theorem ss_no (L : Nat → List (Int × Int)) (M : Nat → List Nat) (hm : ∀ w, (L w).length ≤ 9223372036854775807) (hs : ∀ w x, x ∈ M w → x < 115792089237316195423570985008687907853269984665640564039457584007913129639936) (b1 : Bool) (h1 : Sound Try.prog 0 false (.loop (loopB Try.f8 0)) (slA L M true 0).aa (.exit 0) (slX L M b1).aa) (h2 : Sound Try.prog 0 false (.loop (loopB Try.f8 1)) (slB L M b1 0).aa (.exit 2) (slX L M true).aa) (hr : ∀ w, w < 3 → rowOK L M w) (h : ¬ ∀ w, w < 3 → rowEq L M w) : Gives Try.prog 8 [.ags [.z [.l (plC (L 0))] (L 0).length, .z [.l (plC (L 1))] (L 1).length, .z [.l (plC (L 2))] (L 2).length], .ags [.z [.l (numC 4 (M 0))] (M 0).length, .z [.l (numC 4 (M 1))] (M 1).length, .z [.l (numC 4 (M 2))] (M 2).length]] (.v (.bool true)) :=
  fn_gives_at (P := Try.prog) (X := rulesY _) (env := [eAl19]) ⟨eAl19_ok, trivial⟩ Try.func8 0 (oL [(13, lpO { I := slA L M true 0, ex := .exit 0, E := slX L M b1, fr := 14 }), (15, lpO { I := slB L M b1 0, ex := .exit 2, E := slX L M true, fr := 16 }), (17, lpO { I := slC L M true 0, ex := .exit 6, E := slX L M false, fr := 18 }), (22, { ch := 0, hi := fun _ => 0, ex := 7, av := fun _ => .v (.bool false) })]) (by kernel_rfl) ⟨_, rfl⟩
    (And.intro (show GivesE Try.prog 30 [.ags [.z [.l (plC (L 0))] (L 0).length, .z [.l (plC (L 1))] (L 1).length, .z [.l (plC (L 2))] (L 2).length], .ags [.z [.l (numC 4 (M 0))] (M 0).length, .z [.l (numC 4 (M 1))] (M 1).length, .z [.l (numC 4 (M 2))] (M 2).length]] (.v (.bool false)) from ⟨fun vs w => Go.Proofs.enters_of (P := Try.prog) Try.func30 (by kernel_rfl) rfl vs w, same_no L M hm hs hr h⟩)
    (And.intro (show some (slC L M true 0) = some (slC L M true 0) from rfl)
    (And.intro (smh_no L M hm hs hr h)
    (And.intro (show some (slB L M b1 0) = some (slB L M b1 0) from rfl)
    (And.intro (h2)
    (And.intro (show some (slA L M true 0) = some (slA L M true 0) from rfl)
    (And.intro (h1) trivial)))))))
theorem ss_row (L : Nat → List (Int × Int)) (M : Nat → List Nat) (hm : ∀ w, (L w).length ≤ 9223372036854775807) (hs : ∀ w x, x ∈ M w → x < 115792089237316195423570985008687907853269984665640564039457584007913129639936) (b1 : Bool) (h1 : Sound Try.prog 0 false (.loop (loopB Try.f8 0)) (slA L M true 0).aa (.exit 0) (slX L M b1).aa) (h2 : Sound Try.prog 0 false (.loop (loopB Try.f8 1)) (slB L M b1 0).aa (.exit 2) (slX L M false).aa) (h : ¬ ∀ w, w < 3 → rowOK L M w) : Gives Try.prog 8 [.ags [.z [.l (plC (L 0))] (L 0).length, .z [.l (plC (L 1))] (L 1).length, .z [.l (plC (L 2))] (L 2).length], .ags [.z [.l (numC 4 (M 0))] (M 0).length, .z [.l (numC 4 (M 1))] (M 1).length, .z [.l (numC 4 (M 2))] (M 2).length]] (.v (.bool true)) :=
  fn_gives_at (P := Try.prog) (X := rulesY _) (env := [eAl19]) ⟨eAl19_ok, trivial⟩ Try.func8 0 (oL [(13, lpO { I := slA L M true 0, ex := .exit 0, E := slX L M b1, fr := 14 }), (15, lpO { I := slB L M b1 0, ex := .exit 2, E := slX L M false, fr := 16 }), (17, lpO { I := slC L M false 0, ex := .exit 6, E := slX L M false, fr := 18 }), (22, { ch := 0, hi := fun _ => 0, ex := 7, av := fun _ => .v (.bool false) })]) (by kernel_rfl) ⟨_, rfl⟩
    (And.intro (show GivesE Try.prog 30 [.ags [.z [.l (plC (L 0))] (L 0).length, .z [.l (plC (L 1))] (L 1).length, .z [.l (plC (L 2))] (L 2).length], .ags [.z [.l (numC 4 (M 0))] (M 0).length, .z [.l (numC 4 (M 1))] (M 1).length, .z [.l (numC 4 (M 2))] (M 2).length]] (.v (.bool false)) from ⟨fun vs w => Go.Proofs.enters_of (P := Try.prog) Try.func30 (by kernel_rfl) rfl vs w, same_row L M hm hs h⟩)
    (And.intro (show some (slC L M false 0) = some (slC L M false 0) from rfl)
    (And.intro (smh_zz L M)
    (And.intro (show some (slB L M b1 0) = some (slB L M b1 0) from rfl)
    (And.intro (h2)
    (And.intro (show some (slA L M true 0) = some (slA L M true 0) from rfl)
    (And.intro (h1) trivial)))))))
theorem sigmaSame_gives (L : Nat → List (Int × Int)) (M : Nat → List Nat) (hm : ∀ w, (L w).length ≤ 9223372036854775807)  (hs : ∀ w x, x ∈ M w → x < 115792089237316195423570985008687907853269984665640564039457584007913129639936)  : Gives Try.prog 8 [.ags [.z [.l (plC (L 0))] (L 0).length, .z [.l (plC (L 1))] (L 1).length, .z [.l (plC (L 2))] (L 2).length], .ags [.z [.l (numC 4 (M 0))] (M 0).length, .z [.l (numC 4 (M 1))] (M 1).length, .z [.l (numC 4 (M 2))] (M 2).length]] (.v (.bool true)) := by
  have h1 := sl_all L M
  have h2 := smf_all L M hm (preB (lenOK L M) 3)
  cases hb : rngB L M (preB (lenOK L M) 3) 3 with
  | true =>
    rw [hb] at h2
    have hr := (rng_iff L M).1 hb
    by_cases h : ∀ w, w < 3 → rowEq L M w
    · exact ss_yes L M hm hs _ h1 h2 hr h
    · exact ss_no L M hm hs _ h1 h2 hr h
  | false =>
    rw [hb] at h2
    exact ss_row L M hm hs _ h1 h2 (fun h => by rw [(rng_iff L M).2 h] at hb; cases hb)
end Go.Proofs.Ytoahfmgdlpgjoaa
