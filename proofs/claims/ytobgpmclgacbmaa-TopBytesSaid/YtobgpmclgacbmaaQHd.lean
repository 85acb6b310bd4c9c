/- Pruned: Hd. -/
import Derived.Test.YtobgpmclgacbmaaQE2
import Derived.Test.YtobgpmclgacbmaaProg
import Derived.Lib.BitFns
import Derived.Test.YtobgpmclgacbmaaQHa
import Derived.Test.YtobgpmclgacbmaaQHc
/- The contract of math/bits.Len64: how many bits a number has. -/
set_option linter.unusedSimpArgs false
set_option linter.unusedVariables false
namespace Go.Proofs.Ytobgpmclgacbmaa
open Go.Ev Go.RowKit

theorem byte_wrap (y : Nat) (h : y % 18446744073709551616 < 256) : IntKind.u8.wrap ((y % 18446744073709551616 : Nat) : Int) = ((y % 18446744073709551616 : Nat) : Int) := by
  simp [IntKind.wrap, IntKind.signed, IntKind.bits]
  omega
theorem len8_at (y : Nat) (h : y % 18446744073709551616 < 256) : 0 ≤ IntKind.u8.wrap ((y % 18446744073709551616 : Nat) : Int) ∧ IntKind.u8.wrap ((y % 18446744073709551616 : Nat) : Int) < Lib.len8tab.size ∧ ((Lib.len8tab[(IntKind.u8.wrap ((y % 18446744073709551616 : Nat) : Int)).toNat]?).getD 0).toNat = Lib.bitLen (y % 18446744073709551616) := by
  rw [byte_wrap y h, Lib.len8tab_size]
  refine ⟨by omega, by omega, ?_⟩
  have := Lib.len8_eq ⟨y % 18446744073709551616, h⟩
  simp only [Lib.len8] at this
  exact_mod_cast this
theorem len64_000 (x : Nat) (h0 : ¬ 4294967296 ≤ x % 18446744073709551616) (h1 : ¬ 65536 ≤ x % 18446744073709551616) (h2 : ¬ 256 ≤ x % 18446744073709551616) : Gives Try.prog 78 [.t (.u x)] (.v (.int .i64 (IntKind.i64.wrap (0 + IntKind.i64.wrap ((Lib.bitLen (x % 18446744073709551616) : Nat) : Int))))) :=
  fn_gives_at (P := Try.prog) (X := rulesQ _) (env := []) trivial Try.func78 0 (oL [(2, wO 2), (4, wO 2), (6, wO 2), (10, rO 1 (Lib.bitLen (x % 18446744073709551616)))]) (by kernel_rfl) ⟨_, rfl⟩ (And.intro (show 0 ≤ IntKind.u8.wrap ((x % 18446744073709551616 : Nat) : Int) ∧ IntKind.u8.wrap ((x % 18446744073709551616 : Nat) : Int) < Lib.len8tab.size ∧ ((Lib.len8tab[(IntKind.u8.wrap ((x % 18446744073709551616 : Nat) : Int)).toNat]?).getD 0).toNat = Lib.bitLen (x % 18446744073709551616) from len8_at x (by omega)) (And.intro (show decide (256 ≤ x % 18446744073709551616) = false from decide_eq_false h2) (And.intro (show decide (65536 ≤ x % 18446744073709551616) = false from decide_eq_false h1) (And.intro (show decide (4294967296 ≤ x % 18446744073709551616) = false from decide_eq_false h0) trivial))))
theorem len64_001 (x : Nat) (h0 : ¬ 4294967296 ≤ x % 18446744073709551616) (h1 : ¬ 65536 ≤ x % 18446744073709551616) (h2 : 256 ≤ x % 18446744073709551616) : Gives Try.prog 78 [.t (.u x)] (.v (.int .i64 (IntKind.i64.wrap (8 + IntKind.i64.wrap ((Lib.bitLen ((x % 18446744073709551616 / 2 ^ 8) % 18446744073709551616) : Nat) : Int))))) :=
  fn_gives_at (P := Try.prog) (X := rulesQ _) (env := []) trivial Try.func78 0 (oL [(2, wO 2), (4, wO 2), (6, wO 1), (16, rO 1 (Lib.bitLen ((x % 18446744073709551616 / 2 ^ 8) % 18446744073709551616)))]) (by kernel_rfl) ⟨_, rfl⟩ (And.intro (show 0 ≤ IntKind.u8.wrap (((x % 18446744073709551616 / 2 ^ 8) % 18446744073709551616 : Nat) : Int) ∧ IntKind.u8.wrap (((x % 18446744073709551616 / 2 ^ 8) % 18446744073709551616 : Nat) : Int) < Lib.len8tab.size ∧ ((Lib.len8tab[(IntKind.u8.wrap (((x % 18446744073709551616 / 2 ^ 8) % 18446744073709551616 : Nat) : Int)).toNat]?).getD 0).toNat = Lib.bitLen ((x % 18446744073709551616 / 2 ^ 8) % 18446744073709551616) from len8_at (x % 18446744073709551616 / 2 ^ 8) (by omega)) (And.intro (show decide (256 ≤ x % 18446744073709551616) = true from decide_eq_true h2) (And.intro (show decide (65536 ≤ x % 18446744073709551616) = false from decide_eq_false h1) (And.intro (show decide (4294967296 ≤ x % 18446744073709551616) = false from decide_eq_false h0) trivial))))
theorem len64_010 (x : Nat) (h0 : ¬ 4294967296 ≤ x % 18446744073709551616) (h1 : 65536 ≤ x % 18446744073709551616) (h2 : ¬ 256 ≤ (x % 18446744073709551616 / 2 ^ 16) % 18446744073709551616) : Gives Try.prog 78 [.t (.u x)] (.v (.int .i64 (IntKind.i64.wrap (16 + IntKind.i64.wrap ((Lib.bitLen ((x % 18446744073709551616 / 2 ^ 16) % 18446744073709551616) : Nat) : Int))))) :=
  fn_gives_at (P := Try.prog) (X := rulesQ _) (env := []) trivial Try.func78 0 (oL [(2, wO 2), (4, wO 1), (12, wO 2), (16, rO 1 (Lib.bitLen ((x % 18446744073709551616 / 2 ^ 16) % 18446744073709551616)))]) (by kernel_rfl) ⟨_, rfl⟩ (And.intro (show 0 ≤ IntKind.u8.wrap (((x % 18446744073709551616 / 2 ^ 16) % 18446744073709551616 : Nat) : Int) ∧ IntKind.u8.wrap (((x % 18446744073709551616 / 2 ^ 16) % 18446744073709551616 : Nat) : Int) < Lib.len8tab.size ∧ ((Lib.len8tab[(IntKind.u8.wrap (((x % 18446744073709551616 / 2 ^ 16) % 18446744073709551616 : Nat) : Int)).toNat]?).getD 0).toNat = Lib.bitLen ((x % 18446744073709551616 / 2 ^ 16) % 18446744073709551616) from len8_at (x % 18446744073709551616 / 2 ^ 16) (by omega)) (And.intro (show decide (256 ≤ (x % 18446744073709551616 / 2 ^ 16) % 18446744073709551616) = false from decide_eq_false h2) (And.intro (show decide (65536 ≤ x % 18446744073709551616) = true from decide_eq_true h1) (And.intro (show decide (4294967296 ≤ x % 18446744073709551616) = false from decide_eq_false h0) trivial))))
theorem len64_011 (x : Nat) (h0 : ¬ 4294967296 ≤ x % 18446744073709551616) (h1 : 65536 ≤ x % 18446744073709551616) (h2 : 256 ≤ (x % 18446744073709551616 / 2 ^ 16) % 18446744073709551616) : Gives Try.prog 78 [.t (.u x)] (.v (.int .i64 (IntKind.i64.wrap (24 + IntKind.i64.wrap ((Lib.bitLen (((x % 18446744073709551616 / 2 ^ 16) % 18446744073709551616 / 2 ^ 8) % 18446744073709551616) : Nat) : Int))))) :=
  fn_gives_at (P := Try.prog) (X := rulesQ _) (env := []) trivial Try.func78 0 (oL [(2, wO 2), (4, wO 1), (12, wO 1), (22, rO 1 (Lib.bitLen (((x % 18446744073709551616 / 2 ^ 16) % 18446744073709551616 / 2 ^ 8) % 18446744073709551616)))]) (by kernel_rfl) ⟨_, rfl⟩ (And.intro (show 0 ≤ IntKind.u8.wrap ((((x % 18446744073709551616 / 2 ^ 16) % 18446744073709551616 / 2 ^ 8) % 18446744073709551616 : Nat) : Int) ∧ IntKind.u8.wrap ((((x % 18446744073709551616 / 2 ^ 16) % 18446744073709551616 / 2 ^ 8) % 18446744073709551616 : Nat) : Int) < Lib.len8tab.size ∧ ((Lib.len8tab[(IntKind.u8.wrap ((((x % 18446744073709551616 / 2 ^ 16) % 18446744073709551616 / 2 ^ 8) % 18446744073709551616 : Nat) : Int)).toNat]?).getD 0).toNat = Lib.bitLen (((x % 18446744073709551616 / 2 ^ 16) % 18446744073709551616 / 2 ^ 8) % 18446744073709551616) from len8_at ((x % 18446744073709551616 / 2 ^ 16) % 18446744073709551616 / 2 ^ 8) (by omega)) (And.intro (show decide (256 ≤ (x % 18446744073709551616 / 2 ^ 16) % 18446744073709551616) = true from decide_eq_true h2) (And.intro (show decide (65536 ≤ x % 18446744073709551616) = true from decide_eq_true h1) (And.intro (show decide (4294967296 ≤ x % 18446744073709551616) = false from decide_eq_false h0) trivial))))
theorem len64_100 (x : Nat) (h0 : 4294967296 ≤ x % 18446744073709551616) (h1 : ¬ 65536 ≤ (x % 18446744073709551616 / 2 ^ 32) % 18446744073709551616) (h2 : ¬ 256 ≤ (x % 18446744073709551616 / 2 ^ 32) % 18446744073709551616) : Gives Try.prog 78 [.t (.u x)] (.v (.int .i64 (IntKind.i64.wrap (32 + IntKind.i64.wrap ((Lib.bitLen ((x % 18446744073709551616 / 2 ^ 32) % 18446744073709551616) : Nat) : Int))))) :=
  fn_gives_at (P := Try.prog) (X := rulesQ _) (env := []) trivial Try.func78 0 (oL [(2, wO 1), (8, wO 2), (10, wO 2), (14, rO 1 (Lib.bitLen ((x % 18446744073709551616 / 2 ^ 32) % 18446744073709551616)))]) (by kernel_rfl) ⟨_, rfl⟩ (And.intro (show 0 ≤ IntKind.u8.wrap (((x % 18446744073709551616 / 2 ^ 32) % 18446744073709551616 : Nat) : Int) ∧ IntKind.u8.wrap (((x % 18446744073709551616 / 2 ^ 32) % 18446744073709551616 : Nat) : Int) < Lib.len8tab.size ∧ ((Lib.len8tab[(IntKind.u8.wrap (((x % 18446744073709551616 / 2 ^ 32) % 18446744073709551616 : Nat) : Int)).toNat]?).getD 0).toNat = Lib.bitLen ((x % 18446744073709551616 / 2 ^ 32) % 18446744073709551616) from len8_at (x % 18446744073709551616 / 2 ^ 32) (by omega)) (And.intro (show decide (256 ≤ (x % 18446744073709551616 / 2 ^ 32) % 18446744073709551616) = false from decide_eq_false h2) (And.intro (show decide (65536 ≤ (x % 18446744073709551616 / 2 ^ 32) % 18446744073709551616) = false from decide_eq_false h1) (And.intro (show decide (4294967296 ≤ x % 18446744073709551616) = true from decide_eq_true h0) trivial))))
theorem len64_101 (x : Nat) (h0 : 4294967296 ≤ x % 18446744073709551616) (h1 : ¬ 65536 ≤ (x % 18446744073709551616 / 2 ^ 32) % 18446744073709551616) (h2 : 256 ≤ (x % 18446744073709551616 / 2 ^ 32) % 18446744073709551616) : Gives Try.prog 78 [.t (.u x)] (.v (.int .i64 (IntKind.i64.wrap (40 + IntKind.i64.wrap ((Lib.bitLen (((x % 18446744073709551616 / 2 ^ 32) % 18446744073709551616 / 2 ^ 8) % 18446744073709551616) : Nat) : Int))))) :=
  fn_gives_at (P := Try.prog) (X := rulesQ _) (env := []) trivial Try.func78 0 (oL [(2, wO 1), (8, wO 2), (10, wO 1), (20, rO 1 (Lib.bitLen (((x % 18446744073709551616 / 2 ^ 32) % 18446744073709551616 / 2 ^ 8) % 18446744073709551616)))]) (by kernel_rfl) ⟨_, rfl⟩ (And.intro (show 0 ≤ IntKind.u8.wrap ((((x % 18446744073709551616 / 2 ^ 32) % 18446744073709551616 / 2 ^ 8) % 18446744073709551616 : Nat) : Int) ∧ IntKind.u8.wrap ((((x % 18446744073709551616 / 2 ^ 32) % 18446744073709551616 / 2 ^ 8) % 18446744073709551616 : Nat) : Int) < Lib.len8tab.size ∧ ((Lib.len8tab[(IntKind.u8.wrap ((((x % 18446744073709551616 / 2 ^ 32) % 18446744073709551616 / 2 ^ 8) % 18446744073709551616 : Nat) : Int)).toNat]?).getD 0).toNat = Lib.bitLen (((x % 18446744073709551616 / 2 ^ 32) % 18446744073709551616 / 2 ^ 8) % 18446744073709551616) from len8_at ((x % 18446744073709551616 / 2 ^ 32) % 18446744073709551616 / 2 ^ 8) (by omega)) (And.intro (show decide (256 ≤ (x % 18446744073709551616 / 2 ^ 32) % 18446744073709551616) = true from decide_eq_true h2) (And.intro (show decide (65536 ≤ (x % 18446744073709551616 / 2 ^ 32) % 18446744073709551616) = false from decide_eq_false h1) (And.intro (show decide (4294967296 ≤ x % 18446744073709551616) = true from decide_eq_true h0) trivial))))
theorem len64_110 (x : Nat) (h0 : 4294967296 ≤ x % 18446744073709551616) (h1 : 65536 ≤ (x % 18446744073709551616 / 2 ^ 32) % 18446744073709551616) (h2 : ¬ 256 ≤ ((x % 18446744073709551616 / 2 ^ 32) % 18446744073709551616 / 2 ^ 16) % 18446744073709551616) : Gives Try.prog 78 [.t (.u x)] (.v (.int .i64 (IntKind.i64.wrap (48 + IntKind.i64.wrap ((Lib.bitLen (((x % 18446744073709551616 / 2 ^ 32) % 18446744073709551616 / 2 ^ 16) % 18446744073709551616) : Nat) : Int))))) :=
  fn_gives_at (P := Try.prog) (X := rulesQ _) (env := []) trivial Try.func78 0 (oL [(2, wO 1), (8, wO 1), (16, wO 2), (20, rO 1 (Lib.bitLen (((x % 18446744073709551616 / 2 ^ 32) % 18446744073709551616 / 2 ^ 16) % 18446744073709551616)))]) (by kernel_rfl) ⟨_, rfl⟩ (And.intro (show 0 ≤ IntKind.u8.wrap ((((x % 18446744073709551616 / 2 ^ 32) % 18446744073709551616 / 2 ^ 16) % 18446744073709551616 : Nat) : Int) ∧ IntKind.u8.wrap ((((x % 18446744073709551616 / 2 ^ 32) % 18446744073709551616 / 2 ^ 16) % 18446744073709551616 : Nat) : Int) < Lib.len8tab.size ∧ ((Lib.len8tab[(IntKind.u8.wrap ((((x % 18446744073709551616 / 2 ^ 32) % 18446744073709551616 / 2 ^ 16) % 18446744073709551616 : Nat) : Int)).toNat]?).getD 0).toNat = Lib.bitLen (((x % 18446744073709551616 / 2 ^ 32) % 18446744073709551616 / 2 ^ 16) % 18446744073709551616) from len8_at ((x % 18446744073709551616 / 2 ^ 32) % 18446744073709551616 / 2 ^ 16) (by omega)) (And.intro (show decide (256 ≤ ((x % 18446744073709551616 / 2 ^ 32) % 18446744073709551616 / 2 ^ 16) % 18446744073709551616) = false from decide_eq_false h2) (And.intro (show decide (65536 ≤ (x % 18446744073709551616 / 2 ^ 32) % 18446744073709551616) = true from decide_eq_true h1) (And.intro (show decide (4294967296 ≤ x % 18446744073709551616) = true from decide_eq_true h0) trivial))))
theorem len64_111 (x : Nat) (h0 : 4294967296 ≤ x % 18446744073709551616) (h1 : 65536 ≤ (x % 18446744073709551616 / 2 ^ 32) % 18446744073709551616) (h2 : 256 ≤ ((x % 18446744073709551616 / 2 ^ 32) % 18446744073709551616 / 2 ^ 16) % 18446744073709551616) : Gives Try.prog 78 [.t (.u x)] (.v (.int .i64 (IntKind.i64.wrap (56 + IntKind.i64.wrap ((Lib.bitLen ((((x % 18446744073709551616 / 2 ^ 32) % 18446744073709551616 / 2 ^ 16) % 18446744073709551616 / 2 ^ 8) % 18446744073709551616) : Nat) : Int))))) :=
  fn_gives_at (P := Try.prog) (X := rulesQ _) (env := []) trivial Try.func78 0 (oL [(2, wO 1), (8, wO 1), (16, wO 1), (26, rO 1 (Lib.bitLen ((((x % 18446744073709551616 / 2 ^ 32) % 18446744073709551616 / 2 ^ 16) % 18446744073709551616 / 2 ^ 8) % 18446744073709551616)))]) (by kernel_rfl) ⟨_, rfl⟩ (And.intro (show 0 ≤ IntKind.u8.wrap (((((x % 18446744073709551616 / 2 ^ 32) % 18446744073709551616 / 2 ^ 16) % 18446744073709551616 / 2 ^ 8) % 18446744073709551616 : Nat) : Int) ∧ IntKind.u8.wrap (((((x % 18446744073709551616 / 2 ^ 32) % 18446744073709551616 / 2 ^ 16) % 18446744073709551616 / 2 ^ 8) % 18446744073709551616 : Nat) : Int) < Lib.len8tab.size ∧ ((Lib.len8tab[(IntKind.u8.wrap (((((x % 18446744073709551616 / 2 ^ 32) % 18446744073709551616 / 2 ^ 16) % 18446744073709551616 / 2 ^ 8) % 18446744073709551616 : Nat) : Int)).toNat]?).getD 0).toNat = Lib.bitLen ((((x % 18446744073709551616 / 2 ^ 32) % 18446744073709551616 / 2 ^ 16) % 18446744073709551616 / 2 ^ 8) % 18446744073709551616) from len8_at (((x % 18446744073709551616 / 2 ^ 32) % 18446744073709551616 / 2 ^ 16) % 18446744073709551616 / 2 ^ 8) (by omega)) (And.intro (show decide (256 ≤ ((x % 18446744073709551616 / 2 ^ 32) % 18446744073709551616 / 2 ^ 16) % 18446744073709551616) = true from decide_eq_true h2) (And.intro (show decide (65536 ≤ (x % 18446744073709551616 / 2 ^ 32) % 18446744073709551616) = true from decide_eq_true h1) (And.intro (show decide (4294967296 ≤ x % 18446744073709551616) = true from decide_eq_true h0) trivial))))
theorem wrap_small (n k : Nat) (hn : n ≤ 56) (hk : k ≤ 8) : IntKind.i64.wrap ((n : Int) + IntKind.i64.wrap ((k : Nat) : Int)) = ((n + k : Nat) : Int) := by
  simp only [wrap_i64]
  omega
theorem len64 (x : Nat) : Gives Try.prog 78 [.t (.u x)] (.v (.int .i64 ((Lib.bitLen (x % 18446744073709551616) : Nat) : Int))) := by
  have hx : x % 18446744073709551616 < 18446744073709551616 := Nat.mod_lt _ (by decide)
  have le8 : ∀ y, y < 256 → Lib.bitLen y ≤ 8 := fun y h => Lib.bitLen_le8 ⟨y, h⟩
  by_cases h0 : 4294967296 ≤ x % 18446744073709551616
  · skip
    by_cases h1 : 65536 ≤ (x % 18446744073709551616 / 2 ^ 32) % 18446744073709551616
    · skip
      by_cases h2 : 256 ≤ ((x % 18446744073709551616 / 2 ^ 32) % 18446744073709551616 / 2 ^ 16) % 18446744073709551616
      · skip
        have hb := le8 ((((x % 18446744073709551616 / 2 ^ 32) % 18446744073709551616 / 2 ^ 16) % 18446744073709551616 / 2 ^ 8) % 18446744073709551616) (by omega)
        refine (len64_111 x h0 h1 h2).same ?_
        have s0 : Lib.bitLen (x % 18446744073709551616) = 32 + Lib.bitLen ((x % 18446744073709551616 / 2 ^ 32) % 18446744073709551616) := (Lib.bitLen_shift32 (x % 18446744073709551616) (by omega) (Nat.mod_lt _ (by decide))).trans (congrArg (fun z => 32 + Lib.bitLen z) (show x % 18446744073709551616 / 4294967296 = (x % 18446744073709551616 / 2 ^ 32) % 18446744073709551616 by omega))
        have s1 : Lib.bitLen ((x % 18446744073709551616 / 2 ^ 32) % 18446744073709551616) = 16 + Lib.bitLen (((x % 18446744073709551616 / 2 ^ 32) % 18446744073709551616 / 2 ^ 16) % 18446744073709551616) := (Lib.bitLen_shift16 ((x % 18446744073709551616 / 2 ^ 32) % 18446744073709551616) (by omega) (Nat.mod_lt _ (by decide))).trans (congrArg (fun z => 16 + Lib.bitLen z) (show (x % 18446744073709551616 / 2 ^ 32) % 18446744073709551616 / 65536 = ((x % 18446744073709551616 / 2 ^ 32) % 18446744073709551616 / 2 ^ 16) % 18446744073709551616 by omega))
        have s2 : Lib.bitLen (((x % 18446744073709551616 / 2 ^ 32) % 18446744073709551616 / 2 ^ 16) % 18446744073709551616) = 8 + Lib.bitLen ((((x % 18446744073709551616 / 2 ^ 32) % 18446744073709551616 / 2 ^ 16) % 18446744073709551616 / 2 ^ 8) % 18446744073709551616) := (Lib.bitLen_shift8 (((x % 18446744073709551616 / 2 ^ 32) % 18446744073709551616 / 2 ^ 16) % 18446744073709551616) (by omega) (Nat.mod_lt _ (by decide))).trans (congrArg (fun z => 8 + Lib.bitLen z) (show ((x % 18446744073709551616 / 2 ^ 32) % 18446744073709551616 / 2 ^ 16) % 18446744073709551616 / 256 = (((x % 18446744073709551616 / 2 ^ 32) % 18446744073709551616 / 2 ^ 16) % 18446744073709551616 / 2 ^ 8) % 18446744073709551616 by omega))
        have e : Lib.bitLen (x % 18446744073709551616) = 56 + Lib.bitLen ((((x % 18446744073709551616 / 2 ^ 32) % 18446744073709551616 / 2 ^ 16) % 18446744073709551616 / 2 ^ 8) % 18446744073709551616) := by omega
        rw [e]
        exact congrArg (fun z => some (Value.int .i64 z)) (wrap_small 56 _ (by decide) hb).symm
      · skip
        have hb := le8 (((x % 18446744073709551616 / 2 ^ 32) % 18446744073709551616 / 2 ^ 16) % 18446744073709551616) (by omega)
        refine (len64_110 x h0 h1 h2).same ?_
        have s0 : Lib.bitLen (x % 18446744073709551616) = 32 + Lib.bitLen ((x % 18446744073709551616 / 2 ^ 32) % 18446744073709551616) := (Lib.bitLen_shift32 (x % 18446744073709551616) (by omega) (Nat.mod_lt _ (by decide))).trans (congrArg (fun z => 32 + Lib.bitLen z) (show x % 18446744073709551616 / 4294967296 = (x % 18446744073709551616 / 2 ^ 32) % 18446744073709551616 by omega))
        have s1 : Lib.bitLen ((x % 18446744073709551616 / 2 ^ 32) % 18446744073709551616) = 16 + Lib.bitLen (((x % 18446744073709551616 / 2 ^ 32) % 18446744073709551616 / 2 ^ 16) % 18446744073709551616) := (Lib.bitLen_shift16 ((x % 18446744073709551616 / 2 ^ 32) % 18446744073709551616) (by omega) (Nat.mod_lt _ (by decide))).trans (congrArg (fun z => 16 + Lib.bitLen z) (show (x % 18446744073709551616 / 2 ^ 32) % 18446744073709551616 / 65536 = ((x % 18446744073709551616 / 2 ^ 32) % 18446744073709551616 / 2 ^ 16) % 18446744073709551616 by omega))
        have e : Lib.bitLen (x % 18446744073709551616) = 48 + Lib.bitLen (((x % 18446744073709551616 / 2 ^ 32) % 18446744073709551616 / 2 ^ 16) % 18446744073709551616) := by omega
        rw [e]
        exact congrArg (fun z => some (Value.int .i64 z)) (wrap_small 48 _ (by decide) hb).symm
    · skip
      by_cases h2 : 256 ≤ (x % 18446744073709551616 / 2 ^ 32) % 18446744073709551616
      · skip
        have hb := le8 (((x % 18446744073709551616 / 2 ^ 32) % 18446744073709551616 / 2 ^ 8) % 18446744073709551616) (by omega)
        refine (len64_101 x h0 h1 h2).same ?_
        have s0 : Lib.bitLen (x % 18446744073709551616) = 32 + Lib.bitLen ((x % 18446744073709551616 / 2 ^ 32) % 18446744073709551616) := (Lib.bitLen_shift32 (x % 18446744073709551616) (by omega) (Nat.mod_lt _ (by decide))).trans (congrArg (fun z => 32 + Lib.bitLen z) (show x % 18446744073709551616 / 4294967296 = (x % 18446744073709551616 / 2 ^ 32) % 18446744073709551616 by omega))
        have s1 : Lib.bitLen ((x % 18446744073709551616 / 2 ^ 32) % 18446744073709551616) = 8 + Lib.bitLen (((x % 18446744073709551616 / 2 ^ 32) % 18446744073709551616 / 2 ^ 8) % 18446744073709551616) := (Lib.bitLen_shift8 ((x % 18446744073709551616 / 2 ^ 32) % 18446744073709551616) (by omega) (Nat.mod_lt _ (by decide))).trans (congrArg (fun z => 8 + Lib.bitLen z) (show (x % 18446744073709551616 / 2 ^ 32) % 18446744073709551616 / 256 = ((x % 18446744073709551616 / 2 ^ 32) % 18446744073709551616 / 2 ^ 8) % 18446744073709551616 by omega))
        have e : Lib.bitLen (x % 18446744073709551616) = 40 + Lib.bitLen (((x % 18446744073709551616 / 2 ^ 32) % 18446744073709551616 / 2 ^ 8) % 18446744073709551616) := by omega
        rw [e]
        exact congrArg (fun z => some (Value.int .i64 z)) (wrap_small 40 _ (by decide) hb).symm
      · skip
        have hb := le8 ((x % 18446744073709551616 / 2 ^ 32) % 18446744073709551616) (by omega)
        refine (len64_100 x h0 h1 h2).same ?_
        have s0 : Lib.bitLen (x % 18446744073709551616) = 32 + Lib.bitLen ((x % 18446744073709551616 / 2 ^ 32) % 18446744073709551616) := (Lib.bitLen_shift32 (x % 18446744073709551616) (by omega) (Nat.mod_lt _ (by decide))).trans (congrArg (fun z => 32 + Lib.bitLen z) (show x % 18446744073709551616 / 4294967296 = (x % 18446744073709551616 / 2 ^ 32) % 18446744073709551616 by omega))
        have e : Lib.bitLen (x % 18446744073709551616) = 32 + Lib.bitLen ((x % 18446744073709551616 / 2 ^ 32) % 18446744073709551616) := by omega
        rw [e]
        exact congrArg (fun z => some (Value.int .i64 z)) (wrap_small 32 _ (by decide) hb).symm
  · skip
    by_cases h1 : 65536 ≤ x % 18446744073709551616
    · skip
      by_cases h2 : 256 ≤ (x % 18446744073709551616 / 2 ^ 16) % 18446744073709551616
      · skip
        have hb := le8 (((x % 18446744073709551616 / 2 ^ 16) % 18446744073709551616 / 2 ^ 8) % 18446744073709551616) (by omega)
        refine (len64_011 x h0 h1 h2).same ?_
        have s0 : Lib.bitLen (x % 18446744073709551616) = 16 + Lib.bitLen ((x % 18446744073709551616 / 2 ^ 16) % 18446744073709551616) := (Lib.bitLen_shift16 (x % 18446744073709551616) (by omega) (Nat.mod_lt _ (by decide))).trans (congrArg (fun z => 16 + Lib.bitLen z) (show x % 18446744073709551616 / 65536 = (x % 18446744073709551616 / 2 ^ 16) % 18446744073709551616 by omega))
        have s1 : Lib.bitLen ((x % 18446744073709551616 / 2 ^ 16) % 18446744073709551616) = 8 + Lib.bitLen (((x % 18446744073709551616 / 2 ^ 16) % 18446744073709551616 / 2 ^ 8) % 18446744073709551616) := (Lib.bitLen_shift8 ((x % 18446744073709551616 / 2 ^ 16) % 18446744073709551616) (by omega) (Nat.mod_lt _ (by decide))).trans (congrArg (fun z => 8 + Lib.bitLen z) (show (x % 18446744073709551616 / 2 ^ 16) % 18446744073709551616 / 256 = ((x % 18446744073709551616 / 2 ^ 16) % 18446744073709551616 / 2 ^ 8) % 18446744073709551616 by omega))
        have e : Lib.bitLen (x % 18446744073709551616) = 24 + Lib.bitLen (((x % 18446744073709551616 / 2 ^ 16) % 18446744073709551616 / 2 ^ 8) % 18446744073709551616) := by omega
        rw [e]
        exact congrArg (fun z => some (Value.int .i64 z)) (wrap_small 24 _ (by decide) hb).symm
      · skip
        have hb := le8 ((x % 18446744073709551616 / 2 ^ 16) % 18446744073709551616) (by omega)
        refine (len64_010 x h0 h1 h2).same ?_
        have s0 : Lib.bitLen (x % 18446744073709551616) = 16 + Lib.bitLen ((x % 18446744073709551616 / 2 ^ 16) % 18446744073709551616) := (Lib.bitLen_shift16 (x % 18446744073709551616) (by omega) (Nat.mod_lt _ (by decide))).trans (congrArg (fun z => 16 + Lib.bitLen z) (show x % 18446744073709551616 / 65536 = (x % 18446744073709551616 / 2 ^ 16) % 18446744073709551616 by omega))
        have e : Lib.bitLen (x % 18446744073709551616) = 16 + Lib.bitLen ((x % 18446744073709551616 / 2 ^ 16) % 18446744073709551616) := by omega
        rw [e]
        exact congrArg (fun z => some (Value.int .i64 z)) (wrap_small 16 _ (by decide) hb).symm
    · skip
      by_cases h2 : 256 ≤ x % 18446744073709551616
      · skip
        have hb := le8 ((x % 18446744073709551616 / 2 ^ 8) % 18446744073709551616) (by omega)
        refine (len64_001 x h0 h1 h2).same ?_
        have s0 : Lib.bitLen (x % 18446744073709551616) = 8 + Lib.bitLen ((x % 18446744073709551616 / 2 ^ 8) % 18446744073709551616) := (Lib.bitLen_shift8 (x % 18446744073709551616) (by omega) (Nat.mod_lt _ (by decide))).trans (congrArg (fun z => 8 + Lib.bitLen z) (show x % 18446744073709551616 / 256 = (x % 18446744073709551616 / 2 ^ 8) % 18446744073709551616 by omega))
        have e : Lib.bitLen (x % 18446744073709551616) = 8 + Lib.bitLen ((x % 18446744073709551616 / 2 ^ 8) % 18446744073709551616) := by omega
        rw [e]
        exact congrArg (fun z => some (Value.int .i64 z)) (wrap_small 8 _ (by decide) hb).symm
      · skip
        have hb := le8 (x % 18446744073709551616) (by omega)
        refine (len64_000 x h0 h1 h2).same ?_
        have e2 := wrap_small 0 (Lib.bitLen (x % 18446744073709551616)) (by decide) hb
        rw [Nat.zero_add] at e2
        exact congrArg (fun z => some (Value.int .i64 z)) e2.symm
def eLen64 : Entry := entry1 78 XPar.lim (fun x => [(none, .v (.int .i64 ((Lib.bitLen (x % 18446744073709551616) : Nat) : Int)))])
theorem eLen64_ok : eLen64.OK Try.prog := entry1_ok (fun args w => Go.Proofs.enters_of (P := Try.prog) Try.func78 (by kernel_rfl) rfl args w) (fun x => only (len64 x))
end Go.Proofs.Ytobgpmclgacbmaa

/- The contract of nat.Bits, at 6 limbs: a number is below two to the power of it. -/
set_option linter.unusedSimpArgs false
set_option linter.unusedVariables false
namespace Go.Proofs.Ytobgpmclgacbmaa
open Go.Ev Go.RowKit

theorem bitsP_0 (a : Nat) (g : a / 18446744073709551616 ^ 5 % 18446744073709551616 ≠ 0) : Gives Try.prog 77 [.rd [.n 6 a] 6 6] (.v (.int .i64 (IntKind.i64.wrap (320 + ((Lib.bitLen (a / 18446744073709551616 ^ 5 % 18446744073709551616) : Nat) : Int))))) :=
  fn_gives_at (P := Try.prog) (X := rules0) (env := [eLen64]) ⟨eLen64_ok, trivial⟩ Try.func77 1 (oN [] [(25, 1)]) (by kernel_rfl) ⟨_, rfl⟩ (And.intro (show (!decide (a / 18446744073709551616 ^ 5 % 18446744073709551616 = 0)) = true from by rw [decide_eq_false g]; rfl) trivial)
theorem bitsP_1 (a : Nat) (h5 : a / 18446744073709551616 ^ 5 % 18446744073709551616 = 0) (g : a / 18446744073709551616 ^ 4 % 18446744073709551616 ≠ 0) : Gives Try.prog 77 [.rd [.n 6 a] 6 6] (.v (.int .i64 (IntKind.i64.wrap (256 + ((Lib.bitLen (a / 18446744073709551616 ^ 4 % 18446744073709551616) : Nat) : Int))))) :=
  fn_gives_at (P := Try.prog) (X := rules0) (env := [eLen64]) ⟨eLen64_ok, trivial⟩ Try.func77 1 (oN [] [(25, 2), (35, 1)]) (by kernel_rfl) ⟨_, rfl⟩ (And.intro (show (!decide (a / 18446744073709551616 ^ 4 % 18446744073709551616 = 0)) = true from by rw [decide_eq_false g]; rfl) (And.intro (show (!decide (a / 18446744073709551616 ^ 5 % 18446744073709551616 = 0)) = false from by rw [decide_eq_true h5]; rfl) trivial))
theorem bitsP_2 (a : Nat) (h5 : a / 18446744073709551616 ^ 5 % 18446744073709551616 = 0) (h4 : a / 18446744073709551616 ^ 4 % 18446744073709551616 = 0) (g : a / 18446744073709551616 ^ 3 % 18446744073709551616 ≠ 0) : Gives Try.prog 77 [.rd [.n 6 a] 6 6] (.v (.int .i64 (IntKind.i64.wrap (192 + ((Lib.bitLen (a / 18446744073709551616 ^ 3 % 18446744073709551616) : Nat) : Int))))) :=
  fn_gives_at (P := Try.prog) (X := rules0) (env := [eLen64]) ⟨eLen64_ok, trivial⟩ Try.func77 1 (oN [] [(25, 2), (35, 2), (45, 1)]) (by kernel_rfl) ⟨_, rfl⟩ (And.intro (show (!decide (a / 18446744073709551616 ^ 3 % 18446744073709551616 = 0)) = true from by rw [decide_eq_false g]; rfl) (And.intro (show (!decide (a / 18446744073709551616 ^ 4 % 18446744073709551616 = 0)) = false from by rw [decide_eq_true h4]; rfl) (And.intro (show (!decide (a / 18446744073709551616 ^ 5 % 18446744073709551616 = 0)) = false from by rw [decide_eq_true h5]; rfl) trivial)))
theorem bitsP_3 (a : Nat) (h5 : a / 18446744073709551616 ^ 5 % 18446744073709551616 = 0) (h4 : a / 18446744073709551616 ^ 4 % 18446744073709551616 = 0) (h3 : a / 18446744073709551616 ^ 3 % 18446744073709551616 = 0) (g : a / 18446744073709551616 ^ 2 % 18446744073709551616 ≠ 0) : Gives Try.prog 77 [.rd [.n 6 a] 6 6] (.v (.int .i64 (IntKind.i64.wrap (128 + ((Lib.bitLen (a / 18446744073709551616 ^ 2 % 18446744073709551616) : Nat) : Int))))) :=
  fn_gives_at (P := Try.prog) (X := rules0) (env := [eLen64]) ⟨eLen64_ok, trivial⟩ Try.func77 1 (oN [] [(25, 2), (35, 2), (45, 2), (55, 1)]) (by kernel_rfl) ⟨_, rfl⟩ (And.intro (show (!decide (a / 18446744073709551616 ^ 2 % 18446744073709551616 = 0)) = true from by rw [decide_eq_false g]; rfl) (And.intro (show (!decide (a / 18446744073709551616 ^ 3 % 18446744073709551616 = 0)) = false from by rw [decide_eq_true h3]; rfl) (And.intro (show (!decide (a / 18446744073709551616 ^ 4 % 18446744073709551616 = 0)) = false from by rw [decide_eq_true h4]; rfl) (And.intro (show (!decide (a / 18446744073709551616 ^ 5 % 18446744073709551616 = 0)) = false from by rw [decide_eq_true h5]; rfl) trivial))))
theorem bitsP_4 (a : Nat) (h5 : a / 18446744073709551616 ^ 5 % 18446744073709551616 = 0) (h4 : a / 18446744073709551616 ^ 4 % 18446744073709551616 = 0) (h3 : a / 18446744073709551616 ^ 3 % 18446744073709551616 = 0) (h2 : a / 18446744073709551616 ^ 2 % 18446744073709551616 = 0) (g : a / 18446744073709551616 ^ 1 % 18446744073709551616 ≠ 0) : Gives Try.prog 77 [.rd [.n 6 a] 6 6] (.v (.int .i64 (IntKind.i64.wrap (64 + ((Lib.bitLen (a / 18446744073709551616 ^ 1 % 18446744073709551616) : Nat) : Int))))) :=
  fn_gives_at (P := Try.prog) (X := rules0) (env := [eLen64]) ⟨eLen64_ok, trivial⟩ Try.func77 1 (oN [] [(25, 2), (35, 2), (45, 2), (55, 2), (65, 1)]) (by kernel_rfl) ⟨_, rfl⟩ (And.intro (show (!decide (a / 18446744073709551616 ^ 1 % 18446744073709551616 = 0)) = true from by rw [decide_eq_false g]; rfl) (And.intro (show (!decide (a / 18446744073709551616 ^ 2 % 18446744073709551616 = 0)) = false from by rw [decide_eq_true h2]; rfl) (And.intro (show (!decide (a / 18446744073709551616 ^ 3 % 18446744073709551616 = 0)) = false from by rw [decide_eq_true h3]; rfl) (And.intro (show (!decide (a / 18446744073709551616 ^ 4 % 18446744073709551616 = 0)) = false from by rw [decide_eq_true h4]; rfl) (And.intro (show (!decide (a / 18446744073709551616 ^ 5 % 18446744073709551616 = 0)) = false from by rw [decide_eq_true h5]; rfl) trivial)))))
theorem bitsP_5 (a : Nat) (h5 : a / 18446744073709551616 ^ 5 % 18446744073709551616 = 0) (h4 : a / 18446744073709551616 ^ 4 % 18446744073709551616 = 0) (h3 : a / 18446744073709551616 ^ 3 % 18446744073709551616 = 0) (h2 : a / 18446744073709551616 ^ 2 % 18446744073709551616 = 0) (h1 : a / 18446744073709551616 ^ 1 % 18446744073709551616 = 0) (g : a / 18446744073709551616 ^ 0 % 18446744073709551616 ≠ 0) : Gives Try.prog 77 [.rd [.n 6 a] 6 6] (.v (.int .i64 (IntKind.i64.wrap (0 + ((Lib.bitLen (a / 18446744073709551616 ^ 0 % 18446744073709551616) : Nat) : Int))))) :=
  fn_gives_at (P := Try.prog) (X := rules0) (env := [eLen64]) ⟨eLen64_ok, trivial⟩ Try.func77 1 (oN [] [(25, 2), (35, 2), (45, 2), (55, 2), (65, 2), (75, 1)]) (by kernel_rfl) ⟨_, rfl⟩ (And.intro (show (!decide (a / 18446744073709551616 ^ 0 % 18446744073709551616 = 0)) = true from by rw [decide_eq_false g]; rfl) (And.intro (show (!decide (a / 18446744073709551616 ^ 1 % 18446744073709551616 = 0)) = false from by rw [decide_eq_true h1]; rfl) (And.intro (show (!decide (a / 18446744073709551616 ^ 2 % 18446744073709551616 = 0)) = false from by rw [decide_eq_true h2]; rfl) (And.intro (show (!decide (a / 18446744073709551616 ^ 3 % 18446744073709551616 = 0)) = false from by rw [decide_eq_true h3]; rfl) (And.intro (show (!decide (a / 18446744073709551616 ^ 4 % 18446744073709551616 = 0)) = false from by rw [decide_eq_true h4]; rfl) (And.intro (show (!decide (a / 18446744073709551616 ^ 5 % 18446744073709551616 = 0)) = false from by rw [decide_eq_true h5]; rfl) trivial))))))
theorem bitsP_6 (a : Nat) (h5 : a / 18446744073709551616 ^ 5 % 18446744073709551616 = 0) (h4 : a / 18446744073709551616 ^ 4 % 18446744073709551616 = 0) (h3 : a / 18446744073709551616 ^ 3 % 18446744073709551616 = 0) (h2 : a / 18446744073709551616 ^ 2 % 18446744073709551616 = 0) (h1 : a / 18446744073709551616 ^ 1 % 18446744073709551616 = 0) (h0 : a / 18446744073709551616 ^ 0 % 18446744073709551616 = 0) : Gives Try.prog 77 [.rd [.n 6 a] 6 6] (.v (.int .i64 0)) :=
  fn_gives_at (P := Try.prog) (X := rules0) (env := [eLen64]) ⟨eLen64_ok, trivial⟩ Try.func77 1 (oN [] [(25, 2), (35, 2), (45, 2), (55, 2), (65, 2), (75, 2)]) (by kernel_rfl) ⟨_, rfl⟩ (And.intro (show (!decide (a / 18446744073709551616 ^ 0 % 18446744073709551616 = 0)) = false from by rw [decide_eq_true h0]; rfl) (And.intro (show (!decide (a / 18446744073709551616 ^ 1 % 18446744073709551616 = 0)) = false from by rw [decide_eq_true h1]; rfl) (And.intro (show (!decide (a / 18446744073709551616 ^ 2 % 18446744073709551616 = 0)) = false from by rw [decide_eq_true h2]; rfl) (And.intro (show (!decide (a / 18446744073709551616 ^ 3 % 18446744073709551616 = 0)) = false from by rw [decide_eq_true h3]; rfl) (And.intro (show (!decide (a / 18446744073709551616 ^ 4 % 18446744073709551616 = 0)) = false from by rw [decide_eq_true h4]; rfl) (And.intro (show (!decide (a / 18446744073709551616 ^ 5 % 18446744073709551616 = 0)) = false from by rw [decide_eq_true h5]; rfl) trivial))))))
theorem bitsP (a : Nat) (ha : a < 18446744073709551616 ^ 6) : Gives Try.prog 77 [.rd [.n 6 a] 6 6] (.v (.int .i64 ((nbits 6 a : Nat) : Int))) := by
  rcases Decidable.em (a / 18446744073709551616 ^ 5 % 18446744073709551616 = 0) with h5 | h5
  rotate_left
  · refine (bitsP_0 a  h5).same ?_
    have hb := Lib.bitLen_le (a / 18446744073709551616 ^ 5 % 18446744073709551616) 64 (Nat.le_refl _) (Nat.mod_lt _ (by decide))
    have e : nbits 6 a = 320 + Lib.bitLen (a / 18446744073709551616 ^ 5 % 18446744073709551616) := by simp only [nbits, if_neg h5]
    rw [e]
    exact congrArg (fun z => some (Value.int .i64 z)) (wrap_bits 320 _ (by decide) hb).symm
  rcases Decidable.em (a / 18446744073709551616 ^ 4 % 18446744073709551616 = 0) with h4 | h4
  rotate_left
  · refine (bitsP_1 a h5 h4).same ?_
    have hb := Lib.bitLen_le (a / 18446744073709551616 ^ 4 % 18446744073709551616) 64 (Nat.le_refl _) (Nat.mod_lt _ (by decide))
    have e : nbits 6 a = 256 + Lib.bitLen (a / 18446744073709551616 ^ 4 % 18446744073709551616) := by simp only [nbits, if_pos h5, if_neg h4]
    rw [e]
    exact congrArg (fun z => some (Value.int .i64 z)) (wrap_bits 256 _ (by decide) hb).symm
  rcases Decidable.em (a / 18446744073709551616 ^ 3 % 18446744073709551616 = 0) with h3 | h3
  rotate_left
  · refine (bitsP_2 a h5 h4 h3).same ?_
    have hb := Lib.bitLen_le (a / 18446744073709551616 ^ 3 % 18446744073709551616) 64 (Nat.le_refl _) (Nat.mod_lt _ (by decide))
    have e : nbits 6 a = 192 + Lib.bitLen (a / 18446744073709551616 ^ 3 % 18446744073709551616) := by simp only [nbits, if_pos h5, if_pos h4, if_neg h3]
    rw [e]
    exact congrArg (fun z => some (Value.int .i64 z)) (wrap_bits 192 _ (by decide) hb).symm
  rcases Decidable.em (a / 18446744073709551616 ^ 2 % 18446744073709551616 = 0) with h2 | h2
  rotate_left
  · refine (bitsP_3 a h5 h4 h3 h2).same ?_
    have hb := Lib.bitLen_le (a / 18446744073709551616 ^ 2 % 18446744073709551616) 64 (Nat.le_refl _) (Nat.mod_lt _ (by decide))
    have e : nbits 6 a = 128 + Lib.bitLen (a / 18446744073709551616 ^ 2 % 18446744073709551616) := by simp only [nbits, if_pos h5, if_pos h4, if_pos h3, if_neg h2]
    rw [e]
    exact congrArg (fun z => some (Value.int .i64 z)) (wrap_bits 128 _ (by decide) hb).symm
  rcases Decidable.em (a / 18446744073709551616 ^ 1 % 18446744073709551616 = 0) with h1 | h1
  rotate_left
  · refine (bitsP_4 a h5 h4 h3 h2 h1).same ?_
    have hb := Lib.bitLen_le (a / 18446744073709551616 ^ 1 % 18446744073709551616) 64 (Nat.le_refl _) (Nat.mod_lt _ (by decide))
    have e : nbits 6 a = 64 + Lib.bitLen (a / 18446744073709551616 ^ 1 % 18446744073709551616) := by simp only [nbits, if_pos h5, if_pos h4, if_pos h3, if_pos h2, if_neg h1]
    rw [e]
    exact congrArg (fun z => some (Value.int .i64 z)) (wrap_bits 64 _ (by decide) hb).symm
  rcases Decidable.em (a / 18446744073709551616 ^ 0 % 18446744073709551616 = 0) with h0 | h0
  rotate_left
  · refine (bitsP_5 a h5 h4 h3 h2 h1 h0).same ?_
    have hb := Lib.bitLen_le (a / 18446744073709551616 ^ 0 % 18446744073709551616) 64 (Nat.le_refl _) (Nat.mod_lt _ (by decide))
    have e : nbits 6 a = 0 + Lib.bitLen (a / 18446744073709551616 ^ 0 % 18446744073709551616) := by simp only [nbits, if_pos h5, if_pos h4, if_pos h3, if_pos h2, if_pos h1, if_neg h0]
    rw [e]
    exact congrArg (fun z => some (Value.int .i64 z)) (wrap_bits 0 _ (by decide) hb).symm
  refine (bitsP_6 a h5 h4 h3 h2 h1 h0).same ?_
  have e : nbits 6 a = 0 := by simp only [nbits, if_pos h5, if_pos h4, if_pos h3, if_pos h2, if_pos h1, if_pos h0]
  rw [e]
  rfl
def eBitsP : Entry := entry1 77 (XPar.rd 6 parN6 (fun _ => rfl)) (fun a => [(some (a < 18446744073709551616 ^ 6), .v (.int .i64 ((nbits 6 a : Nat) : Int)))])
theorem eBitsP_ok : eBitsP.OK Try.prog := entry1_ok (fun args w => Go.Proofs.enters_of (P := Try.prog) Try.func77 (by kernel_rfl) rfl args w) (fun a => onlyIf (fun h => bitsP a h))
end Go.Proofs.Ytobgpmclgacbmaa

/- The contract of core.Power at elements of the field of order p: a power. -/
set_option linter.unusedSimpArgs false
set_option linter.unusedVariables false
namespace Go.Proofs.Ytobgpmclgacbmaa
open Go.Ev Go.RowKit

def pwIP (r : Array Tmp × Code × Code) (a : Fin Pp) (e i : Nat) : LState := { n := 24, sl := [(0, .yd 16), (1, .p 11 0), (3, .v (.int .i64 (((i : Nat) : Int) - 1)))], hp := [(2, .ro [.n 6 e]), (3, .own [.m a] 43), (4, .own [.m 1] 43), (5, .own [.c (.int .u64 0), .c (.int .u64 0), .c (.int .u64 0), .c (.int .u64 0), .c (.int .u64 0), .c (.int .u64 0)] 43), (7, .own [.m (pwP a (e / 2 ^ i))] 43), (11, .own [.sl 2 0 6 6] 74), (15, .dfd),
  (16, .lp .ready none ⟨23, .any, trOf [(3, .p 3 0), (7, .p 7 0)]⟩ r.1 r.2.1 r.2.2 15)] }
def pwJP (r : Array Tmp × Code × Code) (a : Fin Pp) (e : Nat) (z : Int) (v : Fin Pp) : LState := { n := 24, sl := [(0, .yd 16), (1, .p 11 0), (3, .v (.int .i64 (z)))], hp := [(2, .ro [.n 6 e]), (3, .own [.m a] 43), (4, .own [.m 1] 43), (5, .own [.c (.int .u64 0), .c (.int .u64 0), .c (.int .u64 0), .c (.int .u64 0), .c (.int .u64 0), .c (.int .u64 0)] 43), (7, .own [.m (v)] 43), (11, .own [.sl 2 0 6 6] 74), (15, .dfd),
  (16, .lp .ready none ⟨23, .any, trOf [(3, .p 3 0), (7, .p 7 0)]⟩ r.1 r.2.1 r.2.2 15)] }
def pwZP (r : Array Tmp × Code × Code) (a : Fin Pp) (e : Nat) (v : Fin Pp) : LState := { n := 24, sl := [], hp := [(2, .ro [.n 6 e]), (3, .own [.m a] 43), (4, .own [.m 1] 43), (5, .own [.c (.int .u64 0), .c (.int .u64 0), .c (.int .u64 0), .c (.int .u64 0), .c (.int .u64 0), .c (.int .u64 0)] 43), (7, .own [.m (v)] 43), (11, .own [.sl 2 0 6 6] 74), (15, .dfd),
  (16, .lp .ready none ⟨23, .any, trOf [(3, .p 3 0), (7, .p 7 0)]⟩ r.1 r.2.1 r.2.2 15)] }
theorem pwP_1 (a : Fin Pp) (e i : Nat) (hi : i < 384) (hb : e / 2 ^ i % 2 = 1) : Sound Try.prog 17 false (loopB Try.f76 0) (pwIP (rangeB Try.f50 0) a e (i + 1)).aa .normal (pwIP (rangeB Try.f50 0) a e i).aa := by
  have hs := roundK_sound (P := Try.prog) (X := rulesQ _) (env := [eTimesP]) ⟨eTimesP_ok, trivial⟩ (n := 2) (os := oL [(31, wO 1), (36, rO 2 (i / 64)), (37, rO 3 0), (40, rO 4 (i % 64)), (42, wO 1)]) (fb := 17) (rd := false) (c := loopB Try.f76 0) (k := 30) (I := pwIP (rangeB Try.f50 0) a e (i + 1)) (sk := [0, 1, 3]) (hk := [2, 3, 4, 5, 7, 11, 15, 16]) (lk := [(16, [3, 7])]) (ex := .normal)
    (L := pwJP (rangeB Try.f50 0) a e (IntKind.i64.wrap ((((i + 1 : Nat) : Int) - 1) - 1)) (pwP a (e / 2 ^ (i + 1)) * pwP a (e / 2 ^ (i + 1)) * a)) (by kernel_rfl) (And.intro (show decide ((e / 18446744073709551616 ^ (0 + i / 64 * 1) % 18446744073709551616 / 2 ^ (i % 64) % 18446744073709551616 &&& 1) % 18446744073709551616 = 1) = true from by rw [bit_test, hb]; rfl) (And.intro (show (((i + 1 : Nat) : Int) - 1).tmod 64 = ((i % 64 : Nat) : Int) ∧ i % 64 < 64 from ⟨by rw [show (((i + 1 : Nat) : Int) - 1) = ((i : Nat) : Int) by omega]; exact tmod64 i, Nat.mod_lt _ (by decide)⟩) (And.intro (show 0 + i / 64 * 1 < 6 from by omega) (And.intro (show IntKind.i64.wrap ((((i + 1 : Nat) : Int) - 1).tdiv 64) = ((i / 64 : Nat) : Int) ∧ i / 64 < 6 from ⟨by rw [show (((i + 1 : Nat) : Int) - 1) = ((i : Nat) : Int) by omega]; exact tdiv64 i (by omega), by omega⟩) (And.intro (show decide (((((i + 1 : Nat) : Int)) - 1) ≥ 0) = true from decide_eq_true (by omega)) trivial)))))
  have e1 : IntKind.i64.wrap ((((i + 1 : Nat) : Int) - 1) - 1) = ((i : Nat) : Int) - 1 := by rw [wrap_i64]; omega
  have e2 : pwP a (e / 2 ^ (i + 1)) * pwP a (e / 2 ^ (i + 1)) * a = pwP a (e / 2 ^ i) := by
    rw [half_step e i, hb]
    exact (congrArg (· * a) (GP.pw_dbl a (e / 2 ^ (i + 1))).symm)
  rw [e1, e2] at hs
  exact hs
theorem pwP_0 (a : Fin Pp) (e i : Nat) (hi : i < 384) (hb : e / 2 ^ i % 2 = 0) : Sound Try.prog 17 false (loopB Try.f76 0) (pwIP (rangeB Try.f50 0) a e (i + 1)).aa .normal (pwIP (rangeB Try.f50 0) a e i).aa := by
  have hs := roundK_sound (P := Try.prog) (X := rulesQ _) (env := [eTimesP]) ⟨eTimesP_ok, trivial⟩ (n := 2) (os := oL [(31, wO 1), (36, rO 2 (i / 64)), (37, rO 3 0), (40, rO 4 (i % 64)), (42, wO 2)]) (fb := 17) (rd := false) (c := loopB Try.f76 0) (k := 30) (I := pwIP (rangeB Try.f50 0) a e (i + 1)) (sk := [0, 1, 3]) (hk := [2, 3, 4, 5, 7, 11, 15, 16]) (lk := [(16, [3, 7])]) (ex := .normal)
    (L := pwJP (rangeB Try.f50 0) a e (IntKind.i64.wrap ((((i + 1 : Nat) : Int) - 1) - 1)) (pwP a (e / 2 ^ (i + 1)) * pwP a (e / 2 ^ (i + 1)))) (by kernel_rfl) (And.intro (show decide ((e / 18446744073709551616 ^ (0 + i / 64 * 1) % 18446744073709551616 / 2 ^ (i % 64) % 18446744073709551616 &&& 1) % 18446744073709551616 = 1) = false from by rw [bit_test, hb]; rfl) (And.intro (show (((i + 1 : Nat) : Int) - 1).tmod 64 = ((i % 64 : Nat) : Int) ∧ i % 64 < 64 from ⟨by rw [show (((i + 1 : Nat) : Int) - 1) = ((i : Nat) : Int) by omega]; exact tmod64 i, Nat.mod_lt _ (by decide)⟩) (And.intro (show 0 + i / 64 * 1 < 6 from by omega) (And.intro (show IntKind.i64.wrap ((((i + 1 : Nat) : Int) - 1).tdiv 64) = ((i / 64 : Nat) : Int) ∧ i / 64 < 6 from ⟨by rw [show (((i + 1 : Nat) : Int) - 1) = ((i : Nat) : Int) by omega]; exact tdiv64 i (by omega), by omega⟩) (And.intro (show decide (((((i + 1 : Nat) : Int)) - 1) ≥ 0) = true from decide_eq_true (by omega)) trivial)))))
  have e1 : IntKind.i64.wrap ((((i + 1 : Nat) : Int) - 1) - 1) = ((i : Nat) : Int) - 1 := by rw [wrap_i64]; omega
  have e2 : pwP a (e / 2 ^ (i + 1)) * pwP a (e / 2 ^ (i + 1)) = pwP a (e / 2 ^ i) := by
    rw [half_step e i, hb]
    exact (GP.pw_dbl a (e / 2 ^ (i + 1))).symm
  rw [e1, e2] at hs
  exact hs
theorem pwP_end (a : Fin Pp) (e : Nat) : Sound Try.prog 17 false (loopB Try.f76 0) (pwIP (rangeB Try.f50 0) a e 0).aa (.exit 0) (pwZP (rangeB Try.f50 0) a e (pwP a e)).aa := by
  have hs := roundK_sound (P := Try.prog) (X := rulesQ _) (env := []) trivial (n := 2) (os := oL [(31, wO 2)]) (fb := 17) (rd := false) (c := loopB Try.f76 0) (k := 30) (I := pwIP (rangeB Try.f50 0) a e 0) (sk := []) (hk := [2, 3, 4, 5, 7, 11, 15, 16]) (lk := [(16, [3, 7])]) (ex := .exit 0)
    (L := pwZP (rangeB Try.f50 0) a e (pwP a (e / 2 ^ 0))) (by kernel_rfl) (And.intro (show decide ((((0 : Nat) : Int) - 1) ≥ 0) = false from by decide) trivial)
  rw [Nat.pow_zero, Nat.div_one] at hs
  exact hs
theorem pwP_loop (a : Fin Pp) (e : Nat) (y : { i : Nat // i ≤ 384 }) : Sound Try.prog 17 false (.loop (loopB Try.f76 0)) (pwIP (rangeB Try.f50 0) a e y.val).aa (.exit 0) (pwZP (rangeB Try.f50 0) a e (pwP a e)).aa := by
  refine loop_ok (m := fun y : { i : Nat // i ≤ 384 } => y.val) (fun y => pwIP (rangeB Try.f50 0) a e y.val) (by simp) (fun y => ?_) y
  obtain ⟨i, hi⟩ := y
  cases i with
  | zero => exact .inr (pwP_end a e)
  | succ i =>
    refine .inl ⟨⟨i, by omega⟩, Nat.lt_succ_self i, ?_⟩
    rcases Nat.mod_two_eq_zero_or_one (e / 2 ^ i) with hb | hb
    · exact pwP_0 a e i (by omega) hb
    · exact pwP_1 a e i (by omega) hb
theorem powerP (a : Fin Pp) (e : Nat) (he : e < 18446744073709551616 ^ 6) : Gives Try.prog 50 [.t (.ag [.m a]), .t (.ag [.m 1]), .rd [.n 6 e] 6 6] (.ag [.m (pwP a e)]) :=
  fn_gives_at (P := Try.prog) (X := rules0) (env := [eBitsP]) ⟨eBitsP_ok, trivial⟩ Try.func50 2 (oL [(21, lpO { I := pwJP (rangeB Try.f50 0) a e (IntKind.i64.wrap (((nbits 6 e : Nat) : Int) - 1)) 1, ex := .exit 0, E := pwZP (rangeB Try.f50 0) a e (pwP a e), fr := 22, lk := [(16, [3, 7])] })]) (by kernel_rfl) ⟨_, rfl⟩
    (And.intro (show some (pwJP (rangeB Try.f50 0) a e (IntKind.i64.wrap (((nbits 6 e : Nat) : Int) - 1)) 1) = some (pwJP (rangeB Try.f50 0) a e (IntKind.i64.wrap (((nbits 6 e : Nat) : Int) - 1)) 1) from rfl) (And.intro (show Sound Try.prog 17 false (.loop (loopB Try.f76 0)) (pwJP (rangeB Try.f50 0) a e (IntKind.i64.wrap (((nbits 6 e : Nat) : Int) - 1)) 1).aa (.exit 0) (pwZP (rangeB Try.f50 0) a e (pwP a e)).aa from by
      have hn := nbits_le 6 e
      have e1 : IntKind.i64.wrap (((nbits 6 e : Nat) : Int) - 1) = ((nbits 6 e : Nat) : Int) - 1 := by rw [wrap_i64]; omega
      have hl := pwP_loop a e ⟨nbits 6 e, by omega⟩
      have e2 : pwIP (rangeB Try.f50 0) a e (nbits 6 e) = pwJP (rangeB Try.f50 0) a e (((nbits 6 e : Nat) : Int) - 1) 1 := by
        have : pwP a (e / 2 ^ nbits 6 e) = 1 := by rw [nbits_all he]; rfl
        simp only [pwIP, pwJP, this]
      rw [e1, ← e2]
      exact hl) (And.intro (show e < 18446744073709551616 ^ 6 from he) trivial)))
def ePowerP : Entry := entry3 50 parM.x parM.x (XPar.rd 6 parN6 (fun _ => rfl)) (fun a y e => [(some (y = 1 ∧ e < 18446744073709551616 ^ 6), .ag [.m (pwP a e)])])
theorem ePowerP_ok : ePowerP.OK Try.prog := entry3_ok (fun args w => Go.Proofs.enters_of (P := Try.prog) Try.func50 (by kernel_rfl) rfl args w) (fun a y e => onlyIf (fun h => by obtain ⟨rfl, h⟩ := h; exact powerP a e h))
theorem inverseP (a : Fin Pp) : Gives Try.prog 94 [.t (.ag [.m a])] (.ag [.m (pwP a 4002409555221667393417789825735904156556882819939007885332058136124031650490837864442687629129015664037894272559785)]) :=
  fn_gives (P := Try.prog) (env := [eRP, eSmP, ePowerP]) ⟨eRP_ok, eSmP_ok, ePowerP_ok, trivial⟩ Try.func94 0 o0 (by kernel_rfl) (And.intro (show ofP (1 % 18446744073709551616) = 1 ∧ 4002409555221667393417789825735904156556882819939007885332058136124031650490837864442687629129015664037894272559785 < 18446744073709551616 ^ 6 from ⟨by decide, by decide⟩) trivial)
def eInvP : Entry := entry1 94 parM.x (fun a => [(none, .ag [.m (pwP a 4002409555221667393417789825735904156556882819939007885332058136124031650490837864442687629129015664037894272559785)])])
theorem eInvP_ok : eInvP.OK Try.prog := entry1_ok (fun args w => Go.Proofs.enters_of (P := Try.prog) Try.func94 (by kernel_rfl) rfl args w) (fun a => only (inverseP a))
end Go.Proofs.Ytobgpmclgacbmaa
