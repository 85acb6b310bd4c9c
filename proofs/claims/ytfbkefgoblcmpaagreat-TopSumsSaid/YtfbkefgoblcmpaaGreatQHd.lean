/- Pruned: Hd. -/
import Derived.Test.YtfbkefgoblcmpaaGreatQE2
import Derived.Test.YtfbkefgoblcmpaaGreatProg
import Derived.Lib.BitFns
import Derived.Test.YtfbkefgoblcmpaaGreatQHa
import Derived.Test.YtfbkefgoblcmpaaGreatQHc
set_option linter.unusedSimpArgs false
set_option linter.unusedVariables false
namespace Go.Proofs.YtfbkefgoblcmpaaGreat
open Go.Ev Go.RowKit
open Tryz
theorem Ks (y : Nat) (h : y % 18446744073709551616 < 256) : IntKind.u8.wrap ((y % 18446744073709551616 : Nat) : Int) = ((y % 18446744073709551616 : Nat) : Int) := by
 simp [IntKind.wrap, IntKind.signed, IntKind.bits]
 omega
theorem vK (y : Nat) (h : y % 18446744073709551616 < 256) : 0 <= IntKind.u8.wrap ((y % 18446744073709551616 : Nat) : Int) /\ IntKind.u8.wrap ((y % 18446744073709551616 : Nat) : Int) < Lib.len8tab.size /\ ((Lib.len8tab[(IntKind.u8.wrap ((y % 18446744073709551616 : Nat) : Int)).toNat]?).getD 0).toNat = Lib.bitLen (y % 18446744073709551616) := by
 rw [Ks y h, Lib.len8tab_size]
 refine ⟨by omega, by omega, ?_⟩
 have := Lib.len8_eq ⟨y % 18446744073709551616, h⟩
 simp only [Lib.len8] at this
 exact_mod_cast this
theorem K8 (x : Nat) (h0 : ¬ 4294967296 <= x % 18446744073709551616) (h1 : ¬ 65536 <= x % 18446744073709551616) (h2 : ¬ 256 <= x % 18446744073709551616) : Gives prog 101 [.t (.u x)] (vi0 (IntKind.i64.wrap (0 + IntKind.i64.wrap ((Lib.bitLen (x % 18446744073709551616) : Nat) : Int)))) :=
 qb (P := prog) (X := tJ _) (env := []) trivial func101 0 (oL [(2, wO 2), (4, wO 2), (6, wO 2), (10, rO 1 (Lib.bitLen (x % 18446744073709551616)))]) (by kernel_rfl) ⟨_, rfl⟩ (ai (show 0 <= IntKind.u8.wrap ((x % 18446744073709551616 : Nat) : Int) /\ IntKind.u8.wrap ((x % 18446744073709551616 : Nat) : Int) < Lib.len8tab.size /\ ((Lib.len8tab[(IntKind.u8.wrap ((x % 18446744073709551616 : Nat) : Int)).toNat]?).getD 0).toNat = Lib.bitLen (x % 18446744073709551616) from vK x (by omega)) (ai (show decide (256 <= x % 18446744073709551616) = false from decide_eq_false h2) (ai (show decide (65536 <= x % 18446744073709551616) = false from decide_eq_false h1) (ai (show decide (4294967296 <= x % 18446744073709551616) = false from decide_eq_false h0) tt0))))
theorem Ku (x : Nat) (h0 : ¬ 4294967296 <= x % 18446744073709551616) (h1 : ¬ 65536 <= x % 18446744073709551616) (h2 : 256 <= x % 18446744073709551616) : Gives prog 101 [.t (.u x)] (vi0 (IntKind.i64.wrap (8 + IntKind.i64.wrap ((Lib.bitLen ((x % 18446744073709551616 / 2 ^ 8) % 18446744073709551616) : Nat) : Int)))) :=
 qb (P := prog) (X := tJ _) (env := []) trivial func101 0 (oL [(2, wO 2), (4, wO 2), (6, wO 1), (16, rO 1 (Lib.bitLen ((x % 18446744073709551616 / 2 ^ 8) % 18446744073709551616)))]) (by kernel_rfl) ⟨_, rfl⟩ (ai (show 0 <= IntKind.u8.wrap (((x % 18446744073709551616 / 2 ^ 8) % 18446744073709551616 : Nat) : Int) /\ IntKind.u8.wrap (((x % 18446744073709551616 / 2 ^ 8) % 18446744073709551616 : Nat) : Int) < Lib.len8tab.size /\ ((Lib.len8tab[(IntKind.u8.wrap (((x % 18446744073709551616 / 2 ^ 8) % 18446744073709551616 : Nat) : Int)).toNat]?).getD 0).toNat = Lib.bitLen ((x % 18446744073709551616 / 2 ^ 8) % 18446744073709551616) from vK (x % 18446744073709551616 / 2 ^ 8) (by omega)) (ai (show decide (256 <= x % 18446744073709551616) = true from decide_eq_true h2) (ai (show decide (65536 <= x % 18446744073709551616) = false from decide_eq_false h1) (ai (show decide (4294967296 <= x % 18446744073709551616) = false from decide_eq_false h0) tt0))))
theorem KO (x : Nat) (h0 : ¬ 4294967296 <= x % 18446744073709551616) (h1 : 65536 <= x % 18446744073709551616) (h2 : ¬ 256 <= (x % 18446744073709551616 / 2 ^ 16) % 18446744073709551616) : Gives prog 101 [.t (.u x)] (vi0 (IntKind.i64.wrap (16 + IntKind.i64.wrap ((Lib.bitLen ((x % 18446744073709551616 / 2 ^ 16) % 18446744073709551616) : Nat) : Int)))) :=
 qb (P := prog) (X := tJ _) (env := []) trivial func101 0 (oL [(2, wO 2), (4, wO 1), (12, wO 2), (16, rO 1 (Lib.bitLen ((x % 18446744073709551616 / 2 ^ 16) % 18446744073709551616)))]) (by kernel_rfl) ⟨_, rfl⟩ (ai (show 0 <= IntKind.u8.wrap (((x % 18446744073709551616 / 2 ^ 16) % 18446744073709551616 : Nat) : Int) /\ IntKind.u8.wrap (((x % 18446744073709551616 / 2 ^ 16) % 18446744073709551616 : Nat) : Int) < Lib.len8tab.size /\ ((Lib.len8tab[(IntKind.u8.wrap (((x % 18446744073709551616 / 2 ^ 16) % 18446744073709551616 : Nat) : Int)).toNat]?).getD 0).toNat = Lib.bitLen ((x % 18446744073709551616 / 2 ^ 16) % 18446744073709551616) from vK (x % 18446744073709551616 / 2 ^ 16) (by omega)) (ai (show decide (256 <= (x % 18446744073709551616 / 2 ^ 16) % 18446744073709551616) = false from decide_eq_false h2) (ai (show decide (65536 <= x % 18446744073709551616) = true from decide_eq_true h1) (ai (show decide (4294967296 <= x % 18446744073709551616) = false from decide_eq_false h0) tt0))))
theorem Kk (x : Nat) (h0 : ¬ 4294967296 <= x % 18446744073709551616) (h1 : 65536 <= x % 18446744073709551616) (h2 : 256 <= (x % 18446744073709551616 / 2 ^ 16) % 18446744073709551616) : Gives prog 101 [.t (.u x)] (vi0 (IntKind.i64.wrap (24 + IntKind.i64.wrap ((Lib.bitLen (((x % 18446744073709551616 / 2 ^ 16) % 18446744073709551616 / 2 ^ 8) % 18446744073709551616) : Nat) : Int)))) :=
 qb (P := prog) (X := tJ _) (env := []) trivial func101 0 (oL [(2, wO 2), (4, wO 1), (12, wO 1), (22, rO 1 (Lib.bitLen (((x % 18446744073709551616 / 2 ^ 16) % 18446744073709551616 / 2 ^ 8) % 18446744073709551616)))]) (by kernel_rfl) ⟨_, rfl⟩ (ai (show 0 <= IntKind.u8.wrap ((((x % 18446744073709551616 / 2 ^ 16) % 18446744073709551616 / 2 ^ 8) % 18446744073709551616 : Nat) : Int) /\ IntKind.u8.wrap ((((x % 18446744073709551616 / 2 ^ 16) % 18446744073709551616 / 2 ^ 8) % 18446744073709551616 : Nat) : Int) < Lib.len8tab.size /\ ((Lib.len8tab[(IntKind.u8.wrap ((((x % 18446744073709551616 / 2 ^ 16) % 18446744073709551616 / 2 ^ 8) % 18446744073709551616 : Nat) : Int)).toNat]?).getD 0).toNat = Lib.bitLen (((x % 18446744073709551616 / 2 ^ 16) % 18446744073709551616 / 2 ^ 8) % 18446744073709551616) from vK ((x % 18446744073709551616 / 2 ^ 16) % 18446744073709551616 / 2 ^ 8) (by omega)) (ai (show decide (256 <= (x % 18446744073709551616 / 2 ^ 16) % 18446744073709551616) = true from decide_eq_true h2) (ai (show decide (65536 <= x % 18446744073709551616) = true from decide_eq_true h1) (ai (show decide (4294967296 <= x % 18446744073709551616) = false from decide_eq_false h0) tt0))))
theorem J9 (x : Nat) (h0 : 4294967296 <= x % 18446744073709551616) (h1 : ¬ 65536 <= (x % 18446744073709551616 / 2 ^ 32) % 18446744073709551616) (h2 : ¬ 256 <= (x % 18446744073709551616 / 2 ^ 32) % 18446744073709551616) : Gives prog 101 [.t (.u x)] (vi0 (IntKind.i64.wrap (32 + IntKind.i64.wrap ((Lib.bitLen ((x % 18446744073709551616 / 2 ^ 32) % 18446744073709551616) : Nat) : Int)))) :=
 qb (P := prog) (X := tJ _) (env := []) trivial func101 0 (oL [(2, wO 1), (8, wO 2), (10, wO 2), (14, rO 1 (Lib.bitLen ((x % 18446744073709551616 / 2 ^ 32) % 18446744073709551616)))]) (by kernel_rfl) ⟨_, rfl⟩ (ai (show 0 <= IntKind.u8.wrap (((x % 18446744073709551616 / 2 ^ 32) % 18446744073709551616 : Nat) : Int) /\ IntKind.u8.wrap (((x % 18446744073709551616 / 2 ^ 32) % 18446744073709551616 : Nat) : Int) < Lib.len8tab.size /\ ((Lib.len8tab[(IntKind.u8.wrap (((x % 18446744073709551616 / 2 ^ 32) % 18446744073709551616 : Nat) : Int)).toNat]?).getD 0).toNat = Lib.bitLen ((x % 18446744073709551616 / 2 ^ 32) % 18446744073709551616) from vK (x % 18446744073709551616 / 2 ^ 32) (by omega)) (ai (show decide (256 <= (x % 18446744073709551616 / 2 ^ 32) % 18446744073709551616) = false from decide_eq_false h2) (ai (show decide (65536 <= (x % 18446744073709551616 / 2 ^ 32) % 18446744073709551616) = false from decide_eq_false h1) (ai (show decide (4294967296 <= x % 18446744073709551616) = true from decide_eq_true h0) tt0))))
theorem KF (x : Nat) (h0 : 4294967296 <= x % 18446744073709551616) (h1 : ¬ 65536 <= (x % 18446744073709551616 / 2 ^ 32) % 18446744073709551616) (h2 : 256 <= (x % 18446744073709551616 / 2 ^ 32) % 18446744073709551616) : Gives prog 101 [.t (.u x)] (vi0 (IntKind.i64.wrap (40 + IntKind.i64.wrap ((Lib.bitLen (((x % 18446744073709551616 / 2 ^ 32) % 18446744073709551616 / 2 ^ 8) % 18446744073709551616) : Nat) : Int)))) :=
 qb (P := prog) (X := tJ _) (env := []) trivial func101 0 (oL [(2, wO 1), (8, wO 2), (10, wO 1), (20, rO 1 (Lib.bitLen (((x % 18446744073709551616 / 2 ^ 32) % 18446744073709551616 / 2 ^ 8) % 18446744073709551616)))]) (by kernel_rfl) ⟨_, rfl⟩ (ai (show 0 <= IntKind.u8.wrap ((((x % 18446744073709551616 / 2 ^ 32) % 18446744073709551616 / 2 ^ 8) % 18446744073709551616 : Nat) : Int) /\ IntKind.u8.wrap ((((x % 18446744073709551616 / 2 ^ 32) % 18446744073709551616 / 2 ^ 8) % 18446744073709551616 : Nat) : Int) < Lib.len8tab.size /\ ((Lib.len8tab[(IntKind.u8.wrap ((((x % 18446744073709551616 / 2 ^ 32) % 18446744073709551616 / 2 ^ 8) % 18446744073709551616 : Nat) : Int)).toNat]?).getD 0).toNat = Lib.bitLen (((x % 18446744073709551616 / 2 ^ 32) % 18446744073709551616 / 2 ^ 8) % 18446744073709551616) from vK ((x % 18446744073709551616 / 2 ^ 32) % 18446744073709551616 / 2 ^ 8) (by omega)) (ai (show decide (256 <= (x % 18446744073709551616 / 2 ^ 32) % 18446744073709551616) = true from decide_eq_true h2) (ai (show decide (65536 <= (x % 18446744073709551616 / 2 ^ 32) % 18446744073709551616) = false from decide_eq_false h1) (ai (show decide (4294967296 <= x % 18446744073709551616) = true from decide_eq_true h0) tt0))))
theorem KP (x : Nat) (h0 : 4294967296 <= x % 18446744073709551616) (h1 : 65536 <= (x % 18446744073709551616 / 2 ^ 32) % 18446744073709551616) (h2 : ¬ 256 <= ((x % 18446744073709551616 / 2 ^ 32) % 18446744073709551616 / 2 ^ 16) % 18446744073709551616) : Gives prog 101 [.t (.u x)] (vi0 (IntKind.i64.wrap (48 + IntKind.i64.wrap ((Lib.bitLen (((x % 18446744073709551616 / 2 ^ 32) % 18446744073709551616 / 2 ^ 16) % 18446744073709551616) : Nat) : Int)))) :=
 qb (P := prog) (X := tJ _) (env := []) trivial func101 0 (oL [(2, wO 1), (8, wO 1), (16, wO 2), (20, rO 1 (Lib.bitLen (((x % 18446744073709551616 / 2 ^ 32) % 18446744073709551616 / 2 ^ 16) % 18446744073709551616)))]) (by kernel_rfl) ⟨_, rfl⟩ (ai (show 0 <= IntKind.u8.wrap ((((x % 18446744073709551616 / 2 ^ 32) % 18446744073709551616 / 2 ^ 16) % 18446744073709551616 : Nat) : Int) /\ IntKind.u8.wrap ((((x % 18446744073709551616 / 2 ^ 32) % 18446744073709551616 / 2 ^ 16) % 18446744073709551616 : Nat) : Int) < Lib.len8tab.size /\ ((Lib.len8tab[(IntKind.u8.wrap ((((x % 18446744073709551616 / 2 ^ 32) % 18446744073709551616 / 2 ^ 16) % 18446744073709551616 : Nat) : Int)).toNat]?).getD 0).toNat = Lib.bitLen (((x % 18446744073709551616 / 2 ^ 32) % 18446744073709551616 / 2 ^ 16) % 18446744073709551616) from vK ((x % 18446744073709551616 / 2 ^ 32) % 18446744073709551616 / 2 ^ 16) (by omega)) (ai (show decide (256 <= ((x % 18446744073709551616 / 2 ^ 32) % 18446744073709551616 / 2 ^ 16) % 18446744073709551616) = false from decide_eq_false h2) (ai (show decide (65536 <= (x % 18446744073709551616 / 2 ^ 32) % 18446744073709551616) = true from decide_eq_true h1) (ai (show decide (4294967296 <= x % 18446744073709551616) = true from decide_eq_true h0) tt0))))
theorem KG (x : Nat) (h0 : 4294967296 <= x % 18446744073709551616) (h1 : 65536 <= (x % 18446744073709551616 / 2 ^ 32) % 18446744073709551616) (h2 : 256 <= ((x % 18446744073709551616 / 2 ^ 32) % 18446744073709551616 / 2 ^ 16) % 18446744073709551616) : Gives prog 101 [.t (.u x)] (vi0 (IntKind.i64.wrap (56 + IntKind.i64.wrap ((Lib.bitLen ((((x % 18446744073709551616 / 2 ^ 32) % 18446744073709551616 / 2 ^ 16) % 18446744073709551616 / 2 ^ 8) % 18446744073709551616) : Nat) : Int)))) :=
 qb (P := prog) (X := tJ _) (env := []) trivial func101 0 (oL [(2, wO 1), (8, wO 1), (16, wO 1), (26, rO 1 (Lib.bitLen ((((x % 18446744073709551616 / 2 ^ 32) % 18446744073709551616 / 2 ^ 16) % 18446744073709551616 / 2 ^ 8) % 18446744073709551616)))]) (by kernel_rfl) ⟨_, rfl⟩ (ai (show 0 <= IntKind.u8.wrap (((((x % 18446744073709551616 / 2 ^ 32) % 18446744073709551616 / 2 ^ 16) % 18446744073709551616 / 2 ^ 8) % 18446744073709551616 : Nat) : Int) /\ IntKind.u8.wrap (((((x % 18446744073709551616 / 2 ^ 32) % 18446744073709551616 / 2 ^ 16) % 18446744073709551616 / 2 ^ 8) % 18446744073709551616 : Nat) : Int) < Lib.len8tab.size /\ ((Lib.len8tab[(IntKind.u8.wrap (((((x % 18446744073709551616 / 2 ^ 32) % 18446744073709551616 / 2 ^ 16) % 18446744073709551616 / 2 ^ 8) % 18446744073709551616 : Nat) : Int)).toNat]?).getD 0).toNat = Lib.bitLen ((((x % 18446744073709551616 / 2 ^ 32) % 18446744073709551616 / 2 ^ 16) % 18446744073709551616 / 2 ^ 8) % 18446744073709551616) from vK (((x % 18446744073709551616 / 2 ^ 32) % 18446744073709551616 / 2 ^ 16) % 18446744073709551616 / 2 ^ 8) (by omega)) (ai (show decide (256 <= ((x % 18446744073709551616 / 2 ^ 32) % 18446744073709551616 / 2 ^ 16) % 18446744073709551616) = true from decide_eq_true h2) (ai (show decide (65536 <= (x % 18446744073709551616 / 2 ^ 32) % 18446744073709551616) = true from decide_eq_true h1) (ai (show decide (4294967296 <= x % 18446744073709551616) = true from decide_eq_true h0) tt0))))
theorem sM (n k : Nat) (hn : n <= 56) (hk : k <= 8) : IntKind.i64.wrap ((n : Int) + IntKind.i64.wrap ((k : Nat) : Int)) = ((n + k : Nat) : Int) := by
 simp only [qm]
 omega
theorem Xo (x : Nat) : Gives prog 101 [.t (.u x)] (vi0 ((Lib.bitLen (x % 18446744073709551616) : Nat) : Int)) := by
 have hx : x % 18446744073709551616 < 18446744073709551616 := Nat.mod_lt _ (by decide)
 have le8 : ∀ y, y < 256 -> Lib.bitLen y <= 8 := fun y h => Lib.bitLen_le8 ⟨y, h⟩
 by_cases h0 : 4294967296 <= x % 18446744073709551616
 ·skip
  by_cases h1 : 65536 <= (x % 18446744073709551616 / 2 ^ 32) % 18446744073709551616
  ·skip
   by_cases h2 : 256 <= ((x % 18446744073709551616 / 2 ^ 32) % 18446744073709551616 / 2 ^ 16) % 18446744073709551616
   ·skip
    have hb := le8 ((((x % 18446744073709551616 / 2 ^ 32) % 18446744073709551616 / 2 ^ 16) % 18446744073709551616 / 2 ^ 8) % 18446744073709551616) (by omega)
    refine (KG x h0 h1 h2).same ?_
    have s0 : Lib.bitLen (x % 18446744073709551616) = 32 + Lib.bitLen ((x % 18446744073709551616 / 2 ^ 32) % 18446744073709551616) := (Lib.bitLen_shift32 (x % 18446744073709551616) (by omega) (Nat.mod_lt _ (by decide))).trans (congrArg (fun z => 32 + Lib.bitLen z) (show x % 18446744073709551616 / 4294967296 = (x % 18446744073709551616 / 2 ^ 32) % 18446744073709551616 by omega))
    have s1 : Lib.bitLen ((x % 18446744073709551616 / 2 ^ 32) % 18446744073709551616) = 16 + Lib.bitLen (((x % 18446744073709551616 / 2 ^ 32) % 18446744073709551616 / 2 ^ 16) % 18446744073709551616) := (Lib.bitLen_shift16 ((x % 18446744073709551616 / 2 ^ 32) % 18446744073709551616) (by omega) (Nat.mod_lt _ (by decide))).trans (congrArg (fun z => 16 + Lib.bitLen z) (show (x % 18446744073709551616 / 2 ^ 32) % 18446744073709551616 / 65536 = ((x % 18446744073709551616 / 2 ^ 32) % 18446744073709551616 / 2 ^ 16) % 18446744073709551616 by omega))
    have s2 : Lib.bitLen (((x % 18446744073709551616 / 2 ^ 32) % 18446744073709551616 / 2 ^ 16) % 18446744073709551616) = 8 + Lib.bitLen ((((x % 18446744073709551616 / 2 ^ 32) % 18446744073709551616 / 2 ^ 16) % 18446744073709551616 / 2 ^ 8) % 18446744073709551616) := (Lib.bitLen_shift8 (((x % 18446744073709551616 / 2 ^ 32) % 18446744073709551616 / 2 ^ 16) % 18446744073709551616) (by omega) (Nat.mod_lt _ (by decide))).trans (congrArg (fun z => 8 + Lib.bitLen z) (show ((x % 18446744073709551616 / 2 ^ 32) % 18446744073709551616 / 2 ^ 16) % 18446744073709551616 / 256 = (((x % 18446744073709551616 / 2 ^ 32) % 18446744073709551616 / 2 ^ 16) % 18446744073709551616 / 2 ^ 8) % 18446744073709551616 by omega))
    have e : Lib.bitLen (x % 18446744073709551616) = 56 + Lib.bitLen ((((x % 18446744073709551616 / 2 ^ 32) % 18446744073709551616 / 2 ^ 16) % 18446744073709551616 / 2 ^ 8) % 18446744073709551616) := by omega
    rw [e]
    exact congrArg (fun z => some (Value.int .i64 z)) (sM 56 _ (by decide) hb).symm
   ·skip
    have hb := le8 (((x % 18446744073709551616 / 2 ^ 32) % 18446744073709551616 / 2 ^ 16) % 18446744073709551616) (by omega)
    refine (KP x h0 h1 h2).same ?_
    have s0 : Lib.bitLen (x % 18446744073709551616) = 32 + Lib.bitLen ((x % 18446744073709551616 / 2 ^ 32) % 18446744073709551616) := (Lib.bitLen_shift32 (x % 18446744073709551616) (by omega) (Nat.mod_lt _ (by decide))).trans (congrArg (fun z => 32 + Lib.bitLen z) (show x % 18446744073709551616 / 4294967296 = (x % 18446744073709551616 / 2 ^ 32) % 18446744073709551616 by omega))
    have s1 : Lib.bitLen ((x % 18446744073709551616 / 2 ^ 32) % 18446744073709551616) = 16 + Lib.bitLen (((x % 18446744073709551616 / 2 ^ 32) % 18446744073709551616 / 2 ^ 16) % 18446744073709551616) := (Lib.bitLen_shift16 ((x % 18446744073709551616 / 2 ^ 32) % 18446744073709551616) (by omega) (Nat.mod_lt _ (by decide))).trans (congrArg (fun z => 16 + Lib.bitLen z) (show (x % 18446744073709551616 / 2 ^ 32) % 18446744073709551616 / 65536 = ((x % 18446744073709551616 / 2 ^ 32) % 18446744073709551616 / 2 ^ 16) % 18446744073709551616 by omega))
    have e : Lib.bitLen (x % 18446744073709551616) = 48 + Lib.bitLen (((x % 18446744073709551616 / 2 ^ 32) % 18446744073709551616 / 2 ^ 16) % 18446744073709551616) := by omega
    rw [e]
    exact congrArg (fun z => some (Value.int .i64 z)) (sM 48 _ (by decide) hb).symm
  ·skip
   by_cases h2 : 256 <= (x % 18446744073709551616 / 2 ^ 32) % 18446744073709551616
   ·skip
    have hb := le8 (((x % 18446744073709551616 / 2 ^ 32) % 18446744073709551616 / 2 ^ 8) % 18446744073709551616) (by omega)
    refine (KF x h0 h1 h2).same ?_
    have s0 : Lib.bitLen (x % 18446744073709551616) = 32 + Lib.bitLen ((x % 18446744073709551616 / 2 ^ 32) % 18446744073709551616) := (Lib.bitLen_shift32 (x % 18446744073709551616) (by omega) (Nat.mod_lt _ (by decide))).trans (congrArg (fun z => 32 + Lib.bitLen z) (show x % 18446744073709551616 / 4294967296 = (x % 18446744073709551616 / 2 ^ 32) % 18446744073709551616 by omega))
    have s1 : Lib.bitLen ((x % 18446744073709551616 / 2 ^ 32) % 18446744073709551616) = 8 + Lib.bitLen (((x % 18446744073709551616 / 2 ^ 32) % 18446744073709551616 / 2 ^ 8) % 18446744073709551616) := (Lib.bitLen_shift8 ((x % 18446744073709551616 / 2 ^ 32) % 18446744073709551616) (by omega) (Nat.mod_lt _ (by decide))).trans (congrArg (fun z => 8 + Lib.bitLen z) (show (x % 18446744073709551616 / 2 ^ 32) % 18446744073709551616 / 256 = ((x % 18446744073709551616 / 2 ^ 32) % 18446744073709551616 / 2 ^ 8) % 18446744073709551616 by omega))
    have e : Lib.bitLen (x % 18446744073709551616) = 40 + Lib.bitLen (((x % 18446744073709551616 / 2 ^ 32) % 18446744073709551616 / 2 ^ 8) % 18446744073709551616) := by omega
    rw [e]
    exact congrArg (fun z => some (Value.int .i64 z)) (sM 40 _ (by decide) hb).symm
   ·skip
    have hb := le8 ((x % 18446744073709551616 / 2 ^ 32) % 18446744073709551616) (by omega)
    refine (J9 x h0 h1 h2).same ?_
    have s0 : Lib.bitLen (x % 18446744073709551616) = 32 + Lib.bitLen ((x % 18446744073709551616 / 2 ^ 32) % 18446744073709551616) := (Lib.bitLen_shift32 (x % 18446744073709551616) (by omega) (Nat.mod_lt _ (by decide))).trans (congrArg (fun z => 32 + Lib.bitLen z) (show x % 18446744073709551616 / 4294967296 = (x % 18446744073709551616 / 2 ^ 32) % 18446744073709551616 by omega))
    have e : Lib.bitLen (x % 18446744073709551616) = 32 + Lib.bitLen ((x % 18446744073709551616 / 2 ^ 32) % 18446744073709551616) := by omega
    rw [e]
    exact congrArg (fun z => some (Value.int .i64 z)) (sM 32 _ (by decide) hb).symm
 ·skip
  by_cases h1 : 65536 <= x % 18446744073709551616
  ·skip
   by_cases h2 : 256 <= (x % 18446744073709551616 / 2 ^ 16) % 18446744073709551616
   ·skip
    have hb := le8 (((x % 18446744073709551616 / 2 ^ 16) % 18446744073709551616 / 2 ^ 8) % 18446744073709551616) (by omega)
    refine (Kk x h0 h1 h2).same ?_
    have s0 : Lib.bitLen (x % 18446744073709551616) = 16 + Lib.bitLen ((x % 18446744073709551616 / 2 ^ 16) % 18446744073709551616) := (Lib.bitLen_shift16 (x % 18446744073709551616) (by omega) (Nat.mod_lt _ (by decide))).trans (congrArg (fun z => 16 + Lib.bitLen z) (show x % 18446744073709551616 / 65536 = (x % 18446744073709551616 / 2 ^ 16) % 18446744073709551616 by omega))
    have s1 : Lib.bitLen ((x % 18446744073709551616 / 2 ^ 16) % 18446744073709551616) = 8 + Lib.bitLen (((x % 18446744073709551616 / 2 ^ 16) % 18446744073709551616 / 2 ^ 8) % 18446744073709551616) := (Lib.bitLen_shift8 ((x % 18446744073709551616 / 2 ^ 16) % 18446744073709551616) (by omega) (Nat.mod_lt _ (by decide))).trans (congrArg (fun z => 8 + Lib.bitLen z) (show (x % 18446744073709551616 / 2 ^ 16) % 18446744073709551616 / 256 = ((x % 18446744073709551616 / 2 ^ 16) % 18446744073709551616 / 2 ^ 8) % 18446744073709551616 by omega))
    have e : Lib.bitLen (x % 18446744073709551616) = 24 + Lib.bitLen (((x % 18446744073709551616 / 2 ^ 16) % 18446744073709551616 / 2 ^ 8) % 18446744073709551616) := by omega
    rw [e]
    exact congrArg (fun z => some (Value.int .i64 z)) (sM 24 _ (by decide) hb).symm
   ·skip
    have hb := le8 ((x % 18446744073709551616 / 2 ^ 16) % 18446744073709551616) (by omega)
    refine (KO x h0 h1 h2).same ?_
    have s0 : Lib.bitLen (x % 18446744073709551616) = 16 + Lib.bitLen ((x % 18446744073709551616 / 2 ^ 16) % 18446744073709551616) := (Lib.bitLen_shift16 (x % 18446744073709551616) (by omega) (Nat.mod_lt _ (by decide))).trans (congrArg (fun z => 16 + Lib.bitLen z) (show x % 18446744073709551616 / 65536 = (x % 18446744073709551616 / 2 ^ 16) % 18446744073709551616 by omega))
    have e : Lib.bitLen (x % 18446744073709551616) = 16 + Lib.bitLen ((x % 18446744073709551616 / 2 ^ 16) % 18446744073709551616) := by omega
    rw [e]
    exact congrArg (fun z => some (Value.int .i64 z)) (sM 16 _ (by decide) hb).symm
  ·skip
   by_cases h2 : 256 <= x % 18446744073709551616
   ·skip
    have hb := le8 ((x % 18446744073709551616 / 2 ^ 8) % 18446744073709551616) (by omega)
    refine (Ku x h0 h1 h2).same ?_
    have s0 : Lib.bitLen (x % 18446744073709551616) = 8 + Lib.bitLen ((x % 18446744073709551616 / 2 ^ 8) % 18446744073709551616) := (Lib.bitLen_shift8 (x % 18446744073709551616) (by omega) (Nat.mod_lt _ (by decide))).trans (congrArg (fun z => 8 + Lib.bitLen z) (show x % 18446744073709551616 / 256 = (x % 18446744073709551616 / 2 ^ 8) % 18446744073709551616 by omega))
    have e : Lib.bitLen (x % 18446744073709551616) = 8 + Lib.bitLen ((x % 18446744073709551616 / 2 ^ 8) % 18446744073709551616) := by omega
    rw [e]
    exact congrArg (fun z => some (Value.int .i64 z)) (sM 8 _ (by decide) hb).symm
   ·skip
    have hb := le8 (x % 18446744073709551616) (by omega)
    refine (K8 x h0 h1 h2).same ?_
    have e2 := sM 0 (Lib.bitLen (x % 18446744073709551616)) (by decide) hb
    rw [Nat.zero_add] at e2
    exact congrArg (fun z => some (Value.int .i64 z)) e2.symm
def vQ : Entry := qA 101 XPar.lim (fun x => [(none, vi0 ((Lib.bitLen (x % 18446744073709551616) : Nat) : Int))])
theorem sQ : vQ.OK prog := qj (fun args w => Go.Proofs.enters_of (P := prog) func101 (by kernel_rfl) rfl args w) (fun x => only (Xo x))
end Go.Proofs.YtfbkefgoblcmpaaGreat
set_option linter.unusedSimpArgs false
set_option linter.unusedVariables false
namespace Go.Proofs.YtfbkefgoblcmpaaGreat
open Go.Ev Go.RowKit
open Tryz
theorem PQ (a : Nat) (g : a / 18446744073709551616 ^ 5 % 18446744073709551616 ≠ 0) : Gives prog 93 [.rd [.n 6 a] 6 6] (vi0 (IntKind.i64.wrap (320 + ((Lib.bitLen (a / 18446744073709551616 ^ 5 % 18446744073709551616) : Nat) : Int)))) :=
 qb (P := prog) (X := tL) (env := [vQ]) ⟨sQ, tt0⟩ func93 1 (oN [] [(25, 1)]) (by kernel_rfl) ⟨_, rfl⟩ (ai (show (!decide (a / 18446744073709551616 ^ 5 % 18446744073709551616 = 0)) = true from by rw [decide_eq_false g]; rfl) tt0)
theorem O2 (a : Nat) (h5 : a / 18446744073709551616 ^ 5 % 18446744073709551616 = 0) (g : a / 18446744073709551616 ^ 4 % 18446744073709551616 ≠ 0) : Gives prog 93 [.rd [.n 6 a] 6 6] (vi0 (IntKind.i64.wrap (256 + ((Lib.bitLen (a / 18446744073709551616 ^ 4 % 18446744073709551616) : Nat) : Int)))) :=
 qb (P := prog) (X := tL) (env := [vQ]) ⟨sQ, tt0⟩ func93 1 (oN [] [(25, 2), (35, 1)]) (by kernel_rfl) ⟨_, rfl⟩ (ai (show (!decide (a / 18446744073709551616 ^ 4 % 18446744073709551616 = 0)) = true from by rw [decide_eq_false g]; rfl) (ai (show (!decide (a / 18446744073709551616 ^ 5 % 18446744073709551616 = 0)) = false from by rw [decide_eq_true h5]; rfl) tt0))
theorem Ph (a : Nat) (h5 : a / 18446744073709551616 ^ 5 % 18446744073709551616 = 0) (h4 : a / 18446744073709551616 ^ 4 % 18446744073709551616 = 0) (g : a / 18446744073709551616 ^ 3 % 18446744073709551616 ≠ 0) : Gives prog 93 [.rd [.n 6 a] 6 6] (vi0 (IntKind.i64.wrap (192 + ((Lib.bitLen (a / 18446744073709551616 ^ 3 % 18446744073709551616) : Nat) : Int)))) :=
 qb (P := prog) (X := tL) (env := [vQ]) ⟨sQ, tt0⟩ func93 1 (oN [] [(25, 2), (35, 2), (45, 1)]) (by kernel_rfl) ⟨_, rfl⟩ (ai (show (!decide (a / 18446744073709551616 ^ 3 % 18446744073709551616 = 0)) = true from by rw [decide_eq_false g]; rfl) (ai (show (!decide (a / 18446744073709551616 ^ 4 % 18446744073709551616 = 0)) = false from by rw [decide_eq_true h4]; rfl) (ai (show (!decide (a / 18446744073709551616 ^ 5 % 18446744073709551616 = 0)) = false from by rw [decide_eq_true h5]; rfl) tt0)))
theorem Q6 (a : Nat) (h5 : a / 18446744073709551616 ^ 5 % 18446744073709551616 = 0) (h4 : a / 18446744073709551616 ^ 4 % 18446744073709551616 = 0) (h3 : a / 18446744073709551616 ^ 3 % 18446744073709551616 = 0) (g : a / 18446744073709551616 ^ 2 % 18446744073709551616 ≠ 0) : Gives prog 93 [.rd [.n 6 a] 6 6] (vi0 (IntKind.i64.wrap (128 + ((Lib.bitLen (a / 18446744073709551616 ^ 2 % 18446744073709551616) : Nat) : Int)))) :=
 qb (P := prog) (X := tL) (env := [vQ]) ⟨sQ, tt0⟩ func93 1 (oN [] [(25, 2), (35, 2), (45, 2), (55, 1)]) (by kernel_rfl) ⟨_, rfl⟩ (ai (show (!decide (a / 18446744073709551616 ^ 2 % 18446744073709551616 = 0)) = true from by rw [decide_eq_false g]; rfl) (ai (show (!decide (a / 18446744073709551616 ^ 3 % 18446744073709551616 = 0)) = false from by rw [decide_eq_true h3]; rfl) (ai (show (!decide (a / 18446744073709551616 ^ 4 % 18446744073709551616 = 0)) = false from by rw [decide_eq_true h4]; rfl) (ai (show (!decide (a / 18446744073709551616 ^ 5 % 18446744073709551616 = 0)) = false from by rw [decide_eq_true h5]; rfl) tt0))))
theorem O5 (a : Nat) (h5 : a / 18446744073709551616 ^ 5 % 18446744073709551616 = 0) (h4 : a / 18446744073709551616 ^ 4 % 18446744073709551616 = 0) (h3 : a / 18446744073709551616 ^ 3 % 18446744073709551616 = 0) (h2 : a / 18446744073709551616 ^ 2 % 18446744073709551616 = 0) (g : a / 18446744073709551616 ^ 1 % 18446744073709551616 ≠ 0) : Gives prog 93 [.rd [.n 6 a] 6 6] (vi0 (IntKind.i64.wrap (64 + ((Lib.bitLen (a / 18446744073709551616 ^ 1 % 18446744073709551616) : Nat) : Int)))) :=
 qb (P := prog) (X := tL) (env := [vQ]) ⟨sQ, tt0⟩ func93 1 (oN [] [(25, 2), (35, 2), (45, 2), (55, 2), (65, 1)]) (by kernel_rfl) ⟨_, rfl⟩ (ai (show (!decide (a / 18446744073709551616 ^ 1 % 18446744073709551616 = 0)) = true from by rw [decide_eq_false g]; rfl) (ai (show (!decide (a / 18446744073709551616 ^ 2 % 18446744073709551616 = 0)) = false from by rw [decide_eq_true h2]; rfl) (ai (show (!decide (a / 18446744073709551616 ^ 3 % 18446744073709551616 = 0)) = false from by rw [decide_eq_true h3]; rfl) (ai (show (!decide (a / 18446744073709551616 ^ 4 % 18446744073709551616 = 0)) = false from by rw [decide_eq_true h4]; rfl) (ai (show (!decide (a / 18446744073709551616 ^ 5 % 18446744073709551616 = 0)) = false from by rw [decide_eq_true h5]; rfl) tt0)))))
theorem Qh (a : Nat) (h5 : a / 18446744073709551616 ^ 5 % 18446744073709551616 = 0) (h4 : a / 18446744073709551616 ^ 4 % 18446744073709551616 = 0) (h3 : a / 18446744073709551616 ^ 3 % 18446744073709551616 = 0) (h2 : a / 18446744073709551616 ^ 2 % 18446744073709551616 = 0) (h1 : a / 18446744073709551616 ^ 1 % 18446744073709551616 = 0) (g : a / 18446744073709551616 ^ 0 % 18446744073709551616 ≠ 0) : Gives prog 93 [.rd [.n 6 a] 6 6] (vi0 (IntKind.i64.wrap (0 + ((Lib.bitLen (a / 18446744073709551616 ^ 0 % 18446744073709551616) : Nat) : Int)))) :=
 qb (P := prog) (X := tL) (env := [vQ]) ⟨sQ, tt0⟩ func93 1 (oN [] [(25, 2), (35, 2), (45, 2), (55, 2), (65, 2), (75, 1)]) (by kernel_rfl) ⟨_, rfl⟩ (ai (show (!decide (a / 18446744073709551616 ^ 0 % 18446744073709551616 = 0)) = true from by rw [decide_eq_false g]; rfl) (ai (show (!decide (a / 18446744073709551616 ^ 1 % 18446744073709551616 = 0)) = false from by rw [decide_eq_true h1]; rfl) (ai (show (!decide (a / 18446744073709551616 ^ 2 % 18446744073709551616 = 0)) = false from by rw [decide_eq_true h2]; rfl) (ai (show (!decide (a / 18446744073709551616 ^ 3 % 18446744073709551616 = 0)) = false from by rw [decide_eq_true h3]; rfl) (ai (show (!decide (a / 18446744073709551616 ^ 4 % 18446744073709551616 = 0)) = false from by rw [decide_eq_true h4]; rfl) (ai (show (!decide (a / 18446744073709551616 ^ 5 % 18446744073709551616 = 0)) = false from by rw [decide_eq_true h5]; rfl) tt0))))))
theorem Qj (a : Nat) (h5 : a / 18446744073709551616 ^ 5 % 18446744073709551616 = 0) (h4 : a / 18446744073709551616 ^ 4 % 18446744073709551616 = 0) (h3 : a / 18446744073709551616 ^ 3 % 18446744073709551616 = 0) (h2 : a / 18446744073709551616 ^ 2 % 18446744073709551616 = 0) (h1 : a / 18446744073709551616 ^ 1 % 18446744073709551616 = 0) (h0 : a / 18446744073709551616 ^ 0 % 18446744073709551616 = 0) : Gives prog 93 [.rd [.n 6 a] 6 6] (vi0 0) :=
 qb (P := prog) (X := tL) (env := [vQ]) ⟨sQ, tt0⟩ func93 1 (oN [] [(25, 2), (35, 2), (45, 2), (55, 2), (65, 2), (75, 2)]) (by kernel_rfl) ⟨_, rfl⟩ (ai (show (!decide (a / 18446744073709551616 ^ 0 % 18446744073709551616 = 0)) = false from by rw [decide_eq_true h0]; rfl) (ai (show (!decide (a / 18446744073709551616 ^ 1 % 18446744073709551616 = 0)) = false from by rw [decide_eq_true h1]; rfl) (ai (show (!decide (a / 18446744073709551616 ^ 2 % 18446744073709551616 = 0)) = false from by rw [decide_eq_true h2]; rfl) (ai (show (!decide (a / 18446744073709551616 ^ 3 % 18446744073709551616 = 0)) = false from by rw [decide_eq_true h3]; rfl) (ai (show (!decide (a / 18446744073709551616 ^ 4 % 18446744073709551616 = 0)) = false from by rw [decide_eq_true h4]; rfl) (ai (show (!decide (a / 18446744073709551616 ^ 5 % 18446744073709551616 = 0)) = false from by rw [decide_eq_true h5]; rfl) tt0))))))
theorem Xa (a : Nat) (ha : a < 18446744073709551616 ^ 6) : Gives prog 93 [.rd [.n 6 a] 6 6] (vi0 ((nbits 6 a : Nat) : Int)) := by
 rcases Decidable.em (a / 18446744073709551616 ^ 5 % 18446744073709551616 = 0) with h5 | h5
 rotate_left
 ·refine (PQ a  h5).same ?_
  have hb := Lib.bitLen_le (a / 18446744073709551616 ^ 5 % 18446744073709551616) 64 (Nat.le_refl _) (Nat.mod_lt _ (by decide))
  have e : nbits 6 a = 320 + Lib.bitLen (a / 18446744073709551616 ^ 5 % 18446744073709551616) := by simp only [nbits, if_neg h5]
  rw [e]
  exact congrArg (fun z => some (Value.int .i64 z)) (tR 320 _ (by decide) hb).symm
 rcases Decidable.em (a / 18446744073709551616 ^ 4 % 18446744073709551616 = 0) with h4 | h4
 rotate_left
 ·refine (O2 a h5 h4).same ?_
  have hb := Lib.bitLen_le (a / 18446744073709551616 ^ 4 % 18446744073709551616) 64 (Nat.le_refl _) (Nat.mod_lt _ (by decide))
  have e : nbits 6 a = 256 + Lib.bitLen (a / 18446744073709551616 ^ 4 % 18446744073709551616) := by simp only [nbits, if_pos h5, if_neg h4]
  rw [e]
  exact congrArg (fun z => some (Value.int .i64 z)) (tR 256 _ (by decide) hb).symm
 rcases Decidable.em (a / 18446744073709551616 ^ 3 % 18446744073709551616 = 0) with h3 | h3
 rotate_left
 ·refine (Ph a h5 h4 h3).same ?_
  have hb := Lib.bitLen_le (a / 18446744073709551616 ^ 3 % 18446744073709551616) 64 (Nat.le_refl _) (Nat.mod_lt _ (by decide))
  have e : nbits 6 a = 192 + Lib.bitLen (a / 18446744073709551616 ^ 3 % 18446744073709551616) := by simp only [nbits, if_pos h5, if_pos h4, if_neg h3]
  rw [e]
  exact congrArg (fun z => some (Value.int .i64 z)) (tR 192 _ (by decide) hb).symm
 rcases Decidable.em (a / 18446744073709551616 ^ 2 % 18446744073709551616 = 0) with h2 | h2
 rotate_left
 ·refine (Q6 a h5 h4 h3 h2).same ?_
  have hb := Lib.bitLen_le (a / 18446744073709551616 ^ 2 % 18446744073709551616) 64 (Nat.le_refl _) (Nat.mod_lt _ (by decide))
  have e : nbits 6 a = 128 + Lib.bitLen (a / 18446744073709551616 ^ 2 % 18446744073709551616) := by simp only [nbits, if_pos h5, if_pos h4, if_pos h3, if_neg h2]
  rw [e]
  exact congrArg (fun z => some (Value.int .i64 z)) (tR 128 _ (by decide) hb).symm
 rcases Decidable.em (a / 18446744073709551616 ^ 1 % 18446744073709551616 = 0) with h1 | h1
 rotate_left
 ·refine (O5 a h5 h4 h3 h2 h1).same ?_
  have hb := Lib.bitLen_le (a / 18446744073709551616 ^ 1 % 18446744073709551616) 64 (Nat.le_refl _) (Nat.mod_lt _ (by decide))
  have e : nbits 6 a = 64 + Lib.bitLen (a / 18446744073709551616 ^ 1 % 18446744073709551616) := by simp only [nbits, if_pos h5, if_pos h4, if_pos h3, if_pos h2, if_neg h1]
  rw [e]
  exact congrArg (fun z => some (Value.int .i64 z)) (tR 64 _ (by decide) hb).symm
 rcases Decidable.em (a / 18446744073709551616 ^ 0 % 18446744073709551616 = 0) with h0 | h0
 rotate_left
 ·refine (Qh a h5 h4 h3 h2 h1 h0).same ?_
  have hb := Lib.bitLen_le (a / 18446744073709551616 ^ 0 % 18446744073709551616) 64 (Nat.le_refl _) (Nat.mod_lt _ (by decide))
  have e : nbits 6 a = 0 + Lib.bitLen (a / 18446744073709551616 ^ 0 % 18446744073709551616) := by simp only [nbits, if_pos h5, if_pos h4, if_pos h3, if_pos h2, if_pos h1, if_neg h0]
  rw [e]
  exact congrArg (fun z => some (Value.int .i64 z)) (tR 0 _ (by decide) hb).symm
 refine (Qj a h5 h4 h3 h2 h1 h0).same ?_
 have e : nbits 6 a = 0 := by simp only [nbits, if_pos h5, if_pos h4, if_pos h3, if_pos h2, if_pos h1, if_pos h0]
 rw [e]
 rfl
def MA : Entry := qA 93 (XPar.rd 6 zV (fun _ => rfl)) (fun a => [(some (a < 18446744073709551616 ^ 6), vi0 ((nbits 6 a : Nat) : Int))])
theorem KQ : MA.OK prog := qj (fun args w => Go.Proofs.enters_of (P := prog) func93 (by kernel_rfl) rfl args w) (fun a => sZ (fun h => Xa a h))
end Go.Proofs.YtfbkefgoblcmpaaGreat
set_option linter.unusedSimpArgs false
set_option linter.unusedVariables false
namespace Go.Proofs.YtfbkefgoblcmpaaGreat
open Go.Ev Go.RowKit
open Tryz
def A7 (r : Array Tmp × Code × Code) (a : Fin Pp) (e i : Nat) : LState := { n := 24, sl := [(0, .yd 16), (1, .p 11 0), (3, vi0 (((i : Nat) : Int) - 1))], hp := [(2, .ro [.n 6 e]), (3, .own [.m a] 51), (4, .own [.m 1] 51), (5, .own [.c (.int .u64 0), .c (.int .u64 0), .c (.int .u64 0), .c (.int .u64 0), .c (.int .u64 0), .c (.int .u64 0)] 51), (7, .own [.m (pwP a (e / 2 ^ i))] 51), (11, .own [.sl 2 0 6 6] 118), (15, .dfd),
 (16, .lp .ready none ⟨23, .any, trOf [(3, .p 3 0), (7, .p 7 0)]⟩ r.1 r.2.1 r.2.2 15)] }
def Fp (r : Array Tmp × Code × Code) (a : Fin Pp) (e : Nat) (z : Int) (v : Fin Pp) : LState := { n := 24, sl := [(0, .yd 16), (1, .p 11 0), (3, vi0 (z))], hp := [(2, .ro [.n 6 e]), (3, .own [.m a] 51), (4, .own [.m 1] 51), (5, .own [.c (.int .u64 0), .c (.int .u64 0), .c (.int .u64 0), .c (.int .u64 0), .c (.int .u64 0), .c (.int .u64 0)] 51), (7, .own [.m (v)] 51), (11, .own [.sl 2 0 6 6] 118), (15, .dfd),
 (16, .lp .ready none ⟨23, .any, trOf [(3, .p 3 0), (7, .p 7 0)]⟩ r.1 r.2.1 r.2.2 15)] }
def Ll (r : Array Tmp × Code × Code) (a : Fin Pp) (e : Nat) (v : Fin Pp) : LState := { n := 24, sl := [], hp := [(2, .ro [.n 6 e]), (3, .own [.m a] 51), (4, .own [.m 1] 51), (5, .own [.c (.int .u64 0), .c (.int .u64 0), .c (.int .u64 0), .c (.int .u64 0), .c (.int .u64 0), .c (.int .u64 0)] 51), (7, .own [.m (v)] 51), (11, .own [.sl 2 0 6 6] 118), (15, .dfd),
 (16, .lp .ready none ⟨23, .any, trOf [(3, .p 3 0), (7, .p 7 0)]⟩ r.1 r.2.1 r.2.2 15)] }
theorem XL (a : Fin Pp) (e i : Nat) (hi : i < 384) (hb : e / 2 ^ i % 2 = 1) : Sound prog 17 false (ql f92 0) (A7 (qd f104 0) a e (i + 1)).aa .normal (A7 (qd f104 0) a e i).aa := by
 have hs := qh (P := prog) (X := tJ _) (env := [rf]) ⟨qB, tt0⟩ (n := 2) (os := oL [(31, wO 1), (36, rO 2 (i / 64)), (37, rO 3 0), (40, rO 4 (i % 64)), (42, wO 1)]) (fb := 17) (rd := false) (c := ql f92 0) (k := 30) (I := A7 (qd f104 0) a e (i + 1)) (sk := [0, 1, 3]) (hk := [2, 3, 4, 5, 7, 11, 15, 16]) (lk := [(16, [3, 7])]) (ex := .normal)
  (L := Fp (qd f104 0) a e (IntKind.i64.wrap ((((i + 1 : Nat) : Int) - 1) - 1)) (pwP a (e / 2 ^ (i + 1)) * pwP a (e / 2 ^ (i + 1)) * a)) (by kernel_rfl) (ai (show decide ((e / 18446744073709551616 ^ (0 + i / 64 * 1) % 18446744073709551616 / 2 ^ (i % 64) % 18446744073709551616 &&& 1) % 18446744073709551616 = 1) = true from by rw [x6, hb]; rfl) (ai (show (((i + 1 : Nat) : Int) - 1).tmod 64 = ((i % 64 : Nat) : Int) /\ i % 64 < 64 from ⟨by rw [show (((i + 1 : Nat) : Int) - 1) = ((i : Nat) : Int) by omega]; exact yY i, Nat.mod_lt _ (by decide)⟩) (ai (show 0 + i / 64 * 1 < 6 from by omega) (ai (show IntKind.i64.wrap ((((i + 1 : Nat) : Int) - 1).tdiv 64) = ((i / 64 : Nat) : Int) /\ i / 64 < 6 from ⟨by rw [show (((i + 1 : Nat) : Int) - 1) = ((i : Nat) : Int) by omega]; exact yX i (by omega), by omega⟩) (ai (show decide (((((i + 1 : Nat) : Int)) - 1) >= 0) = true from decide_eq_true (by omega)) tt0)))))
 have e1 : IntKind.i64.wrap ((((i + 1 : Nat) : Int) - 1) - 1) = ((i : Nat) : Int) - 1 := by rw [qm]; omega
 have e2 : pwP a (e / 2 ^ (i + 1)) * pwP a (e / 2 ^ (i + 1)) * a = pwP a (e / 2 ^ i) := by
  rw [yl e i, hb]
  exact (congrArg (· * a) (GP.pw_dbl a (e / 2 ^ (i + 1))).symm)
 rw [e1, e2] at hs
 exact hs
theorem WT (a : Fin Pp) (e i : Nat) (hi : i < 384) (hb : e / 2 ^ i % 2 = 0) : Sound prog 17 false (ql f92 0) (A7 (qd f104 0) a e (i + 1)).aa .normal (A7 (qd f104 0) a e i).aa := by
 have hs := qh (P := prog) (X := tJ _) (env := [rf]) ⟨qB, tt0⟩ (n := 2) (os := oL [(31, wO 1), (36, rO 2 (i / 64)), (37, rO 3 0), (40, rO 4 (i % 64)), (42, wO 2)]) (fb := 17) (rd := false) (c := ql f92 0) (k := 30) (I := A7 (qd f104 0) a e (i + 1)) (sk := [0, 1, 3]) (hk := [2, 3, 4, 5, 7, 11, 15, 16]) (lk := [(16, [3, 7])]) (ex := .normal)
  (L := Fp (qd f104 0) a e (IntKind.i64.wrap ((((i + 1 : Nat) : Int) - 1) - 1)) (pwP a (e / 2 ^ (i + 1)) * pwP a (e / 2 ^ (i + 1)))) (by kernel_rfl) (ai (show decide ((e / 18446744073709551616 ^ (0 + i / 64 * 1) % 18446744073709551616 / 2 ^ (i % 64) % 18446744073709551616 &&& 1) % 18446744073709551616 = 1) = false from by rw [x6, hb]; rfl) (ai (show (((i + 1 : Nat) : Int) - 1).tmod 64 = ((i % 64 : Nat) : Int) /\ i % 64 < 64 from ⟨by rw [show (((i + 1 : Nat) : Int) - 1) = ((i : Nat) : Int) by omega]; exact yY i, Nat.mod_lt _ (by decide)⟩) (ai (show 0 + i / 64 * 1 < 6 from by omega) (ai (show IntKind.i64.wrap ((((i + 1 : Nat) : Int) - 1).tdiv 64) = ((i / 64 : Nat) : Int) /\ i / 64 < 6 from ⟨by rw [show (((i + 1 : Nat) : Int) - 1) = ((i : Nat) : Int) by omega]; exact yX i (by omega), by omega⟩) (ai (show decide (((((i + 1 : Nat) : Int)) - 1) >= 0) = true from decide_eq_true (by omega)) tt0)))))
 have e1 : IntKind.i64.wrap ((((i + 1 : Nat) : Int) - 1) - 1) = ((i : Nat) : Int) - 1 := by rw [qm]; omega
 have e2 : pwP a (e / 2 ^ (i + 1)) * pwP a (e / 2 ^ (i + 1)) = pwP a (e / 2 ^ i) := by
  rw [yl e i, hb]
  exact (GP.pw_dbl a (e / 2 ^ (i + 1))).symm
 rw [e1, e2] at hs
 exact hs
theorem P7 (a : Fin Pp) (e : Nat) : Sound prog 17 false (ql f92 0) (A7 (qd f104 0) a e 0).aa (.exit 0) (Ll (qd f104 0) a e (pwP a e)).aa := by
 have hs := qh (P := prog) (X := tJ _) (env := []) trivial (n := 2) (os := oL [(31, wO 2)]) (fb := 17) (rd := false) (c := ql f92 0) (k := 30) (I := A7 (qd f104 0) a e 0) (sk := []) (hk := [2, 3, 4, 5, 7, 11, 15, 16]) (lk := [(16, [3, 7])]) (ex := .exit 0)
  (L := Ll (qd f104 0) a e (pwP a (e / 2 ^ 0))) (by kernel_rfl) (ai (show decide ((((0 : Nat) : Int) - 1) >= 0) = false from by decide) tt0)
 rw [Nat.pow_zero, Nat.div_one] at hs
 exact hs
theorem OW (a : Fin Pp) (e : Nat) (y : { i : Nat // i <= 384 }) : Sound prog 17 false (.loop (ql f92 0)) (A7 (qd f104 0) a e y.val).aa (.exit 0) (Ll (qd f104 0) a e (pwP a e)).aa := by
 refine sT (m := fun y : { i : Nat // i <= 384 } => y.val) (fun y => A7 (qd f104 0) a e y.val) (by simp) (fun y => ?_) y
 obtain ⟨i, hi⟩ := y
 cases i with
 | zero => exact .inr (P7 a e)
 | succ i =>
  refine .inl ⟨⟨i, by omega⟩, Nat.lt_succ_self i, ?_⟩
  rcases Nat.mod_two_eq_zero_or_one (e / 2 ^ i) with hb | hb
  ·exact WT a e i (by omega) hb
  ·exact XL a e i (by omega) hb
theorem Tg (a : Fin Pp) (e : Nat) (he : e < 18446744073709551616 ^ 6) : Gives prog 104 [.t (.ag [.m a]), .t (.ag [.m 1]), .rd [.n 6 e] 6 6] (.ag [.m (pwP a e)]) :=
 qb (P := prog) (X := tL) (env := [MA]) ⟨KQ, tt0⟩ func104 2 (oL [(21, lpO { I := Fp (qd f104 0) a e (IntKind.i64.wrap (((nbits 6 e : Nat) : Int) - 1)) 1, ex := .exit 0, E := Ll (qd f104 0) a e (pwP a e), fr := 22, lk := [(16, [3, 7])] })]) (by kernel_rfl) ⟨_, rfl⟩ (ai (show some (Fp (qd f104 0) a e (IntKind.i64.wrap (((nbits 6 e : Nat) : Int) - 1)) 1) = some (Fp (qd f104 0) a e (IntKind.i64.wrap (((nbits 6 e : Nat) : Int) - 1)) 1) from rfl) (ai (show Sound prog 17 false (.loop (ql f92 0)) (Fp (qd f104 0) a e (IntKind.i64.wrap (((nbits 6 e : Nat) : Int) - 1)) 1).aa (.exit 0) (Ll (qd f104 0) a e (pwP a e)).aa from by
   have hn := Cd 6 e
   have e1 : IntKind.i64.wrap (((nbits 6 e : Nat) : Int) - 1) = ((nbits 6 e : Nat) : Int) - 1 := by rw [qm]; omega
   have hl := OW a e ⟨nbits 6 e, by omega⟩
   have e2 : A7 (qd f104 0) a e (nbits 6 e) = Fp (qd f104 0) a e (((nbits 6 e : Nat) : Int) - 1) 1 := by
    have : pwP a (e / 2 ^ nbits 6 e) = 1 := by rw [DE he]; rfl
    simp only [A7, Fp, this]
   rw [e1, ← e2]
   exact hl) (ai (show e < 18446744073709551616 ^ 6 from he) tt0)))
def Jz : Entry := Ak 104 vw.x vw.x (XPar.rd 6 zV (fun _ => rfl)) (fun a y e => [(some (y = 1 /\ e < 18446744073709551616 ^ 6), .ag [.m (pwP a e)])])
theorem Hj : Jz.OK prog := yC (fun args w => Go.Proofs.enters_of (P := prog) func104 (by kernel_rfl) rfl args w) (fun a y e => sZ (fun h => by obtain ⟨rfl, h⟩ := h; exact Tg a e h))
theorem Ng (a : Fin Pp) : Gives prog 103 [.t (.ag [.m a])] (.ag [.m (pwP a 4002409555221667393417789825735904156556882819939007885332058136124031650490837864442687629129015664037894272559785)]) :=
 qa (P := prog) (env := [eRP, xj, Jz]) ⟨wU, rX, Hj, tt0⟩ func103 0 o0 (by kernel_rfl) (ai (show ofP (1 % 18446744073709551616) = 1 /\ 4002409555221667393417789825735904156556882819939007885332058136124031650490837864442687629129015664037894272559785 < 18446744073709551616 ^ 6 from ⟨by decide, by decide⟩) tt0)
def Js : Entry := qA 103 vw.x (fun a => [(none, .ag [.m (pwP a 4002409555221667393417789825735904156556882819939007885332058136124031650490837864442687629129015664037894272559785)])])
theorem BA : Js.OK prog := qj (fun args w => Go.Proofs.enters_of (P := prog) func103 (by kernel_rfl) rfl args w) (fun a => only (Ng a))
end Go.Proofs.YtfbkefgoblcmpaaGreat
