/- Contracts of fr.Hash and of its reference. -/
import Derived.Test.YtoahfmgdlpgjoaaByS
set_option linter.unusedSimpArgs false
set_option linter.unusedVariables false
namespace Go.Proofs.Ytoahfmgdlpgjoaa
open Go.Ev Go.RowKit

theorem ofR_step (x b : Nat) : ofR (x * 256 + b) = ofR x * ofR (256 % 18446744073709551616) + ofR b := by
  apply Fin.ext
  show (x * 256 + b) % Rr = ((x % Rr * (256 % 18446744073709551616 % Rr)) % Rr + b % Rr) % Rr
  rw [← Nat.mul_mod, ← Nat.add_mod]
/-- The number that the first i bytes make, modulo r. -/
def hsh (l : List UInt8) (i : Nat) : Fin Rr := ofR (pre l 0 i)
theorem hsh_step (l : List UInt8) (i : Nat) : hsh l (i + 1) = hsh l i * ofR (256 % 18446744073709551616) + ofR (byt l i % 18446744073709551616) := by
  unfold hsh
  have := byt_lt l i
  simp only [pre, Nat.mul_zero, Nat.zero_add]
  rw [ofR_step, Nat.mod_eq_of_lt (a := byt l i) (by omega)]

def hsI (l : List UInt8) (v : Fin Rr) (z : Int) : LState := { n := 24, sl := [(0, .v (.string (ofL l))), (2, .p 0 0), (3, .p 1 0), (4, .p 3 0), (8, .v (.int .i64 ((l.length : Nat) : Int))), (9, .v (.int .i64 z))], hp := [(0, .own [.c (.int .u64 0), .c (.int .u64 0), .c (.int .u64 0), .c (.int .u64 0)] 34), (1, .own [.s v] 65), (3, .own [.s (ofR (256 % 18446744073709551616))] 65)] }
def hsJ (l : List UInt8) : LState := { n := 24, sl := [(0, .v (.string (ofL l))), (2, .p 0 0), (3, .p 1 0), (4, .p 3 0), (8, .v (.int .i64 ((l.length : Nat) : Int))), (9, .v (.int .i64 0))], hp := [(0, .own [.c (.int .u64 0), .c (.int .u64 0), .c (.int .u64 0), .c (.int .u64 0)] 34), (1, .own [.c (.int .u64 0), .c (.int .u64 0), .c (.int .u64 0), .c (.int .u64 0)] 65), (3, .own [.s (ofR (256 % 18446744073709551616))] 65)] }
def hsZ (v : Fin Rr) : LState := { n := 24, sl := [(2, .p 0 0), (3, .p 1 0)], hp := [(0, .own [.c (.int .u64 0), .c (.int .u64 0), .c (.int .u64 0), .c (.int .u64 0)] 34), (1, .own [.s v] 65)] }
theorem hs_round (l : List UInt8) (v : Fin Rr) (i b : Nat) (hi : i < l.length) (hm : l.length ≤ 9223372036854775807) (hb : ((ofL l)[(i : Int).toNat]?.getD 0).toNat = b) (hc : IntKind.u64 = IntKind.u64 ∧ IntKind.u64.wrap ((b : Nat) : Int) = ((b % 18446744073709551616 : Nat) : Int)) :
    Sound Try.prog 0 false (loopB Try.f23 0) (hsI l v (i : Int)).aa .normal (hsI l (v * ofR (256 % 18446744073709551616) + ofR (b % 18446744073709551616)) ((i + 1 : Nat) : Int)).aa := by
  have hs := roundK_sound (P := Try.prog) (X := rulesX _) (env := [eSmS, eTimesS, ePlusS]) ⟨eSmS_ok, eTimesS_ok, ePlusS_ok, trivial⟩ (n := 0) (os := oL [(8, wO 1), (16, rO 1 b), (17, { ch := 2, hi := fun _ => b })]) (fb := 0) (rd := false) (c := loopB Try.f23 0) (k := 8) (I := hsI l v (i : Int)) (sk := [0, 2, 3, 4, 8, 9]) (hk := [0, 1, 3]) (lk := []) (ex := .normal)
    (L := hsI l (v * ofR (256 % 18446744073709551616) + ofR (b % 18446744073709551616)) (IntKind.i64.wrap ((i : Int) + 1))) (by kernel_rfl)
    (And.intro hc (And.intro (show (0 : Int) ≤ (i : Int) ∧ (i : Int) < (ofL l).size ∧ ((ofL l)[(i : Int).toNat]?.getD 0).toNat = b from ⟨by omega, by show (i : Int) < (l.length : Int); omega, hb⟩) (And.intro (show decide ((i : Int) < ((l.length : Nat) : Int)) = true from decide_eq_true (by omega)) trivial)))
  rw [show IntKind.i64.wrap ((i : Int) + 1) = ((i + 1 : Nat) : Int) by rw [wrap_i64]; omega] at hs
  exact hs
theorem hs_end (l : List UInt8) (v : Fin Rr) : Sound Try.prog 0 false (loopB Try.f23 0) (hsI l v ((l.length : Nat) : Int)).aa (.exit 0) (hsZ v).aa :=
  roundK_sound (P := Try.prog) (X := rulesX _) (env := []) trivial (n := 0) (os := oL [(8, wO 2)]) (fb := 0) (rd := false) (c := loopB Try.f23 0) (k := 8) (I := hsI l v ((l.length : Nat) : Int)) (sk := [2, 3]) (hk := [0, 1]) (lk := []) (ex := .exit 0)
    (L := hsZ v) (by kernel_rfl) (And.intro (show decide (((l.length : Nat) : Int) < ((l.length : Nat) : Int)) = false from decide_eq_false (by omega)) trivial)
theorem hs_loop (l : List UInt8) (hm : l.length ≤ 9223372036854775807) (y : { i : Nat // i ≤ l.length }) : Sound Try.prog 0 false (.loop (loopB Try.f23 0)) (hsI l (hsh l y.val) (y.val : Int)).aa (.exit 0) (hsZ (hsh l l.length)).aa := by
  refine loop_ok (m := fun y : { i : Nat // i ≤ l.length } => l.length - y.val) (fun y => hsI l (hsh l y.val) (y.val : Int)) (by simp) (fun y => ?_) y
  obtain ⟨i, hi⟩ := y
  by_cases h : i < l.length
  · refine .inl ⟨⟨i + 1, h⟩, by show l.length - (i + 1) < l.length - i; omega, ?_⟩
    have hr := hs_round l (hsh l i) i (byt l i) h hm rfl (conv_byte l i)
    rw [← hsh_step] at hr
    exact hr
  · have e : i = l.length := by omega
    subst e
    exact .inr (hs_end l (hsh l l.length))
theorem hs_all (l : List UInt8) (hm : l.length ≤ 9223372036854775807) : Sound Try.prog 0 false (.loop (loopB Try.f23 0)) (hsJ l).aa (.exit 0) (hsZ (hsh l l.length)).aa := by
  refine Sound.pre (J := hsI l (hsh l 0) ((0 : Nat) : Int)) (hs_loop l hm ⟨0, by omega⟩) [] (by kernel_rfl) ?_
  have e : flat [Ch.c (.int .u64 0), .c (.int .u64 0), .c (.int .u64 0), .c (.int .u64 0)] = flat [Ch.s (hsh l 0)] := by
    show flat _ = flat [Ch.s 0]
    simp only [flat, Ch.cells]
    rw [toS_zero]
    rfl
  exact ⟨⟨rfl, ⟨rfl, rfl⟩, ⟨rfl, rfl⟩, ⟨rfl, rfl⟩, rfl, rfl, trivial⟩, ⟨⟨rfl, rfl⟩, ⟨rfl, e⟩, ⟨rfl, rfl⟩, trivial⟩⟩
theorem fhash (l : List UInt8) (hm : l.length ≤ 9223372036854775807) : Gives Try.prog 23 [.t (.v (.string (ofL l)))] (.ag [.e (hsh l l.length)]) :=
  fn_gives_at (P := Try.prog) (X := rulesX _) (env := [eSmS, eOutS]) ⟨eSmS_ok, eOutS_ok, trivial⟩ Try.func23 0 (oL [(8, lpO { I := hsJ l, ex := .exit 0, E := hsZ (hsh l l.length), fr := 9 })]) (by kernel_rfl) ⟨_, rfl⟩
    (And.intro (show some (hsJ l) = some (hsJ l) from rfl) (And.intro (hs_all l hm) trivial))
def eFHash : Entry := entry1 23 XPar.str (fun l => [(some (l.length ≤ 9223372036854775807), .ag [.e (hsh l l.length)])])
theorem eFHash_ok : eFHash.OK Try.prog := entry1_ok (fun args w => Go.Proofs.enters_of (P := Try.prog) Try.func23 (by kernel_rfl) rfl args w) (fun l => onlyIf (fun h => fhash l h))
/-! ### The reference -/
theorem addSn (x : Fin Rr) (n : Nat) (h : n < 52435875175126190479447740508185965837690552500527637822603658699938581184513) : Gives Try.prog 47 [.t (.ag [.e x]), .t (.ag [.n 4 n])] (.ag [.e (x + ofR n)]) := by
  obtain ⟨v, h1, h2⟩ := addS x (ofR n)
  refine ⟨v, h1, fun w vs hx => h2 w vs ?_⟩
  have e : flat [Ch.n 4 n] = flat [Ch.e (ofR n)] := by simp only [flat, Ch.cells]; rw [show (ofR n).val = n from Nat.mod_eq_of_lt h]
  have e2 := ag_same (a := [Ch.n 4 n]) (b := [Ch.e (ofR n)]) rfl rfl e
  match vs, hx with
  | [a, b], hx => exact ⟨hx.1, (e2.symm.trans hx.2.1 : _), trivial⟩
def eAddSn : Entry := entry2 47 parE.x parN4.x (fun x n => [(some (n < 52435875175126190479447740508185965837690552500527637822603658699938581184513), .ag [.e (x + ofR n)])])
theorem eAddSn_ok : eAddSn.OK Try.prog := entry2_ok (fun args w => Go.Proofs.enters_of (P := Try.prog) Try.func47 (by kernel_rfl) rfl args w) (fun x n => onlyIf (fun h => addSn x n h))
def dbl (v : Fin Rr) : Fin Rr := v + ofR v.val
theorem dbl_eq (v : Fin Rr) : dbl v = v + v := by unfold dbl; rw [ofR_val]
def rsI (l : List UInt8) (v : Fin Rr) (z : Int) : LState := { n := 28, sl := [(0, .v (.string (ofL l))), (2, .p 0 0), (3, .p 2 0), (4, .v (.int .i64 z))], hp := [(0, .own [.c (.int .u64 0), .c (.int .u64 0), .c (.int .u64 0), .c (.int .u64 0)] 34), (2, .own [.e v] 34)] }
def rsJ (l : List UInt8) : LState := { n := 28, sl := [(0, .v (.string (ofL l))), (2, .p 0 0), (3, .p 2 0), (4, .v (.int .i64 0))], hp := [(0, .own [.c (.int .u64 0), .c (.int .u64 0), .c (.int .u64 0), .c (.int .u64 0)] 34), (2, .own [.c (.int .u64 0), .c (.int .u64 0), .c (.int .u64 0), .c (.int .u64 0)] 34)] }
def rsZ (v : Fin Rr) : LState := { n := 28, sl := [(2, .p 0 0), (3, .p 2 0)], hp := [(0, .own [.c (.int .u64 0), .c (.int .u64 0), .c (.int .u64 0), .c (.int .u64 0)] 34), (2, .own [.e v] 34)] }
theorem rs_round (l : List UInt8) (v : Fin Rr) (i b : Nat) (hi : i < l.length) (hm : l.length ≤ 9223372036854775807) (hb : ((ofL l)[(i : Int).toNat]?.getD 0).toNat = b) (hb2 : b < 256) (hc : IntKind.u64 = IntKind.u64 ∧ IntKind.u64.wrap ((b : Nat) : Int) = ((b % 18446744073709551616 : Nat) : Int)) :
    Sound Try.prog 0 false (loopB Try.f24 0) (rsI l v (i : Int)).aa .normal (rsI l (dbl (dbl (dbl (dbl (dbl (dbl (dbl (dbl v))))))) + ofR (b % 18446744073709551616 + 18446744073709551616 * ((0 : Int).toNat + 18446744073709551616 * ((0 : Int).toNat + 18446744073709551616 * ((0 : Int).toNat + 18446744073709551616 * 0))))) ((i + 1 : Nat) : Int)).aa := by
  have hs := roundK_sound (P := Try.prog) (X := rulesX _) (env := [eAddSn]) ⟨eAddSn_ok, trivial⟩ (n := 0) (os := oL [(8, wO 1), (87, rO 1 b), (88, { ch := 2, hi := fun _ => b })]) (fb := 0) (rd := false) (c := loopB Try.f24 0) (k := 5) (I := rsI l v (i : Int)) (sk := [0, 2, 3, 4]) (hk := [0, 2]) (lk := []) (ex := .normal)
    (L := rsI l (dbl (dbl (dbl (dbl (dbl (dbl (dbl (dbl v))))))) + ofR (b % 18446744073709551616 + 18446744073709551616 * ((0 : Int).toNat + 18446744073709551616 * ((0 : Int).toNat + 18446744073709551616 * ((0 : Int).toNat + 18446744073709551616 * 0))))) (IntKind.i64.wrap ((i : Int) + 1))) (by kernel_rfl)
    (And.intro (show b % 18446744073709551616 + 18446744073709551616 * ((0 : Int).toNat + 18446744073709551616 * ((0 : Int).toNat + 18446744073709551616 * ((0 : Int).toNat + 18446744073709551616 * 0))) < 52435875175126190479447740508185965837690552500527637822603658699938581184513 from by simp only [Int.toNat_zero]; omega)
    (And.intro hc (And.intro (show (0 : Int) ≤ (i : Int) ∧ (i : Int) < (ofL l).size ∧ ((ofL l)[(i : Int).toNat]?.getD 0).toNat = b from ⟨by omega, by show (i : Int) < (l.length : Int); omega, hb⟩)
    (And.intro (dbl (dbl (dbl (dbl (dbl (dbl (dbl v)))))) ).isLt (And.intro (dbl (dbl (dbl (dbl (dbl (dbl v)))))).isLt (And.intro (dbl (dbl (dbl (dbl (dbl v))))).isLt (And.intro (dbl (dbl (dbl (dbl v)))).isLt (And.intro (dbl (dbl (dbl v))).isLt (And.intro (dbl (dbl v)).isLt (And.intro (dbl v).isLt (And.intro v.isLt
    (And.intro (show decide ((i : Int) < ((l.length : Nat) : Int)) = true from decide_eq_true (by omega)) trivial))))))))))))
  rw [show IntKind.i64.wrap ((i : Int) + 1) = ((i + 1 : Nat) : Int) by rw [wrap_i64]; omega] at hs
  exact hs
theorem dbl_eight (v : Fin Rr) : dbl (dbl (dbl (dbl (dbl (dbl (dbl (dbl v))))))) = v * ofR (256 % 18446744073709551616) := by
  simp only [dbl_eq]
  have e : (ofR (256 % 18446744073709551616) : Fin Rr) = ofR 128 + ofR 128 := by decide
  have e1 : (ofR 128 : Fin Rr) = ofR 64 + ofR 64 := by decide
  have e2 : (ofR 64 : Fin Rr) = ofR 32 + ofR 32 := by decide
  have e3 : (ofR 32 : Fin Rr) = ofR 16 + ofR 16 := by decide
  have e4 : (ofR 16 : Fin Rr) = ofR 8 + ofR 8 := by decide
  have e5 : (ofR 8 : Fin Rr) = ofR 4 + ofR 4 := by decide
  have e6 : (ofR 4 : Fin Rr) = ofR 2 + ofR 2 := by decide
  have e7 : (ofR 2 : Fin Rr) = 1 + 1 := by decide
  have d : ∀ a : Fin Rr, v * (a + a) = v * a + v * a := fun a => by grind
  rw [e, e1, e2, e3, e4, e5, e6, e7]
  simp only [d]
  rw [show v * 1 = v by grind]
theorem rs_end (l : List UInt8) (v : Fin Rr) : Sound Try.prog 0 false (loopB Try.f24 0) (rsI l v ((l.length : Nat) : Int)).aa (.exit 0) (rsZ v).aa :=
  roundK_sound (P := Try.prog) (X := rulesX _) (env := []) trivial (n := 0) (os := oL [(8, wO 2)]) (fb := 0) (rd := false) (c := loopB Try.f24 0) (k := 5) (I := rsI l v ((l.length : Nat) : Int)) (sk := [2, 3]) (hk := [0, 2]) (lk := []) (ex := .exit 0)
    (L := rsZ v) (by kernel_rfl) (And.intro (show decide (((l.length : Nat) : Int) < ((l.length : Nat) : Int)) = false from decide_eq_false (by omega)) trivial)
theorem rs_loop (l : List UInt8) (hm : l.length ≤ 9223372036854775807) (y : { i : Nat // i ≤ l.length }) : Sound Try.prog 0 false (.loop (loopB Try.f24 0)) (rsI l (hsh l y.val) (y.val : Int)).aa (.exit 0) (rsZ (hsh l l.length)).aa := by
  refine loop_ok (m := fun y : { i : Nat // i ≤ l.length } => l.length - y.val) (fun y => rsI l (hsh l y.val) (y.val : Int)) (by simp) (fun y => ?_) y
  obtain ⟨i, hi⟩ := y
  by_cases h : i < l.length
  · refine .inl ⟨⟨i + 1, h⟩, by show l.length - (i + 1) < l.length - i; omega, ?_⟩
    have hr := rs_round l (hsh l i) i (byt l i) h hm rfl (byt_lt l i) (conv_byte l i)
    rw [dbl_eight, show byt l i % 18446744073709551616 + 18446744073709551616 * ((0 : Int).toNat + 18446744073709551616 * ((0 : Int).toNat + 18446744073709551616 * ((0 : Int).toNat + 18446744073709551616 * 0))) = byt l i % 18446744073709551616 by simp, ← hsh_step] at hr
    exact hr
  · have e : i = l.length := by omega
    subst e
    exact .inr (rs_end l (hsh l l.length))
theorem rs_all (l : List UInt8) (hm : l.length ≤ 9223372036854775807) : Sound Try.prog 0 false (.loop (loopB Try.f24 0)) (rsJ l).aa (.exit 0) (rsZ (hsh l l.length)).aa := by
  refine Sound.pre (J := rsI l (hsh l 0) ((0 : Nat) : Int)) (rs_loop l hm ⟨0, by omega⟩) [] (by kernel_rfl) ?_
  have e : flat [Ch.c (.int .u64 0), .c (.int .u64 0), .c (.int .u64 0), .c (.int .u64 0)] = flat [Ch.e (hsh l 0)] := by kernel_rfl
  exact ⟨⟨rfl, ⟨rfl, rfl⟩, ⟨rfl, rfl⟩, rfl, trivial⟩, ⟨⟨rfl, rfl⟩, ⟨rfl, e⟩, trivial⟩⟩
theorem rhash (l : List UInt8) (hm : l.length ≤ 9223372036854775807) : Gives Try.prog 24 [.t (.v (.string (ofL l)))] (.ag [.e (hsh l l.length)]) :=
  fn_gives_at (P := Try.prog) (X := rulesX _) (env := []) trivial Try.func24 0 (oL [(5, lpO { I := rsJ l, ex := .exit 0, E := rsZ (hsh l l.length), fr := 9 })]) (by kernel_rfl) ⟨_, rfl⟩
    (And.intro (show some (rsJ l) = some (rsJ l) from rfl) (And.intro (rs_all l hm) trivial))
def eRHash : Entry := entry1 24 XPar.str (fun l => [(some (l.length ≤ 9223372036854775807), .ag [.e (hsh l l.length)])])
theorem eRHash_ok : eRHash.OK Try.prog := entry1_ok (fun args w => Go.Proofs.enters_of (P := Try.prog) Try.func24 (by kernel_rfl) rfl args w) (fun l => onlyIf (fun h => rhash l h))
end Go.Proofs.Ytoahfmgdlpgjoaa
