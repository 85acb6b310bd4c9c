/- Pruned: ZhBiS. -/
import Derived.Test.YtoigbjimhcgolaaQHd
import Derived.Test.YtoigbjimhcgolaaQHa
set_option linter.unusedSimpArgs false
set_option linter.unusedVariables false
namespace Go.Proofs.Ytoigbjimhcgolaa
open Go.Ev Go.RowKit

theorem bitsS_0 (a : Nat) (g : a / 18446744073709551616 ^ 3 % 18446744073709551616 ≠ 0) : Gives Try.prog 88 [.rd [.n 4 a] 4 4] (.v (.int .i64 (IntKind.i64.wrap (192 + ((Lib.bitLen (a / 18446744073709551616 ^ 3 % 18446744073709551616) : Nat) : Int))))) :=
  fn_gives_at (P := Try.prog) (X := rules0) (env := [eLen64]) ⟨eLen64_ok, trivial⟩ Try.func88 1 (oN [] [(25, 1)]) (by kernel_rfl) ⟨_, rfl⟩ (And.intro (show (!decide (a / 18446744073709551616 ^ 3 % 18446744073709551616 = 0)) = true from by rw [decide_eq_false g]; rfl) trivial)
theorem bitsS_1 (a : Nat) (h3 : a / 18446744073709551616 ^ 3 % 18446744073709551616 = 0) (g : a / 18446744073709551616 ^ 2 % 18446744073709551616 ≠ 0) : Gives Try.prog 88 [.rd [.n 4 a] 4 4] (.v (.int .i64 (IntKind.i64.wrap (128 + ((Lib.bitLen (a / 18446744073709551616 ^ 2 % 18446744073709551616) : Nat) : Int))))) :=
  fn_gives_at (P := Try.prog) (X := rules0) (env := [eLen64]) ⟨eLen64_ok, trivial⟩ Try.func88 1 (oN [] [(25, 2), (35, 1)]) (by kernel_rfl) ⟨_, rfl⟩ (And.intro (show (!decide (a / 18446744073709551616 ^ 2 % 18446744073709551616 = 0)) = true from by rw [decide_eq_false g]; rfl) (And.intro (show (!decide (a / 18446744073709551616 ^ 3 % 18446744073709551616 = 0)) = false from by rw [decide_eq_true h3]; rfl) trivial))
theorem bitsS_2 (a : Nat) (h3 : a / 18446744073709551616 ^ 3 % 18446744073709551616 = 0) (h2 : a / 18446744073709551616 ^ 2 % 18446744073709551616 = 0) (g : a / 18446744073709551616 ^ 1 % 18446744073709551616 ≠ 0) : Gives Try.prog 88 [.rd [.n 4 a] 4 4] (.v (.int .i64 (IntKind.i64.wrap (64 + ((Lib.bitLen (a / 18446744073709551616 ^ 1 % 18446744073709551616) : Nat) : Int))))) :=
  fn_gives_at (P := Try.prog) (X := rules0) (env := [eLen64]) ⟨eLen64_ok, trivial⟩ Try.func88 1 (oN [] [(25, 2), (35, 2), (45, 1)]) (by kernel_rfl) ⟨_, rfl⟩ (And.intro (show (!decide (a / 18446744073709551616 ^ 1 % 18446744073709551616 = 0)) = true from by rw [decide_eq_false g]; rfl) (And.intro (show (!decide (a / 18446744073709551616 ^ 2 % 18446744073709551616 = 0)) = false from by rw [decide_eq_true h2]; rfl) (And.intro (show (!decide (a / 18446744073709551616 ^ 3 % 18446744073709551616 = 0)) = false from by rw [decide_eq_true h3]; rfl) trivial)))
theorem bitsS_3 (a : Nat) (h3 : a / 18446744073709551616 ^ 3 % 18446744073709551616 = 0) (h2 : a / 18446744073709551616 ^ 2 % 18446744073709551616 = 0) (h1 : a / 18446744073709551616 ^ 1 % 18446744073709551616 = 0) (g : a / 18446744073709551616 ^ 0 % 18446744073709551616 ≠ 0) : Gives Try.prog 88 [.rd [.n 4 a] 4 4] (.v (.int .i64 (IntKind.i64.wrap (0 + ((Lib.bitLen (a / 18446744073709551616 ^ 0 % 18446744073709551616) : Nat) : Int))))) :=
  fn_gives_at (P := Try.prog) (X := rules0) (env := [eLen64]) ⟨eLen64_ok, trivial⟩ Try.func88 1 (oN [] [(25, 2), (35, 2), (45, 2), (55, 1)]) (by kernel_rfl) ⟨_, rfl⟩ (And.intro (show (!decide (a / 18446744073709551616 ^ 0 % 18446744073709551616 = 0)) = true from by rw [decide_eq_false g]; rfl) (And.intro (show (!decide (a / 18446744073709551616 ^ 1 % 18446744073709551616 = 0)) = false from by rw [decide_eq_true h1]; rfl) (And.intro (show (!decide (a / 18446744073709551616 ^ 2 % 18446744073709551616 = 0)) = false from by rw [decide_eq_true h2]; rfl) (And.intro (show (!decide (a / 18446744073709551616 ^ 3 % 18446744073709551616 = 0)) = false from by rw [decide_eq_true h3]; rfl) trivial))))
theorem bitsS_4 (a : Nat) (h3 : a / 18446744073709551616 ^ 3 % 18446744073709551616 = 0) (h2 : a / 18446744073709551616 ^ 2 % 18446744073709551616 = 0) (h1 : a / 18446744073709551616 ^ 1 % 18446744073709551616 = 0) (h0 : a / 18446744073709551616 ^ 0 % 18446744073709551616 = 0) : Gives Try.prog 88 [.rd [.n 4 a] 4 4] (.v (.int .i64 0)) :=
  fn_gives_at (P := Try.prog) (X := rules0) (env := [eLen64]) ⟨eLen64_ok, trivial⟩ Try.func88 1 (oN [] [(25, 2), (35, 2), (45, 2), (55, 2)]) (by kernel_rfl) ⟨_, rfl⟩ (And.intro (show (!decide (a / 18446744073709551616 ^ 0 % 18446744073709551616 = 0)) = false from by rw [decide_eq_true h0]; rfl) (And.intro (show (!decide (a / 18446744073709551616 ^ 1 % 18446744073709551616 = 0)) = false from by rw [decide_eq_true h1]; rfl) (And.intro (show (!decide (a / 18446744073709551616 ^ 2 % 18446744073709551616 = 0)) = false from by rw [decide_eq_true h2]; rfl) (And.intro (show (!decide (a / 18446744073709551616 ^ 3 % 18446744073709551616 = 0)) = false from by rw [decide_eq_true h3]; rfl) trivial))))
theorem bitsS (a : Nat) (ha : a < 18446744073709551616 ^ 4) : Gives Try.prog 88 [.rd [.n 4 a] 4 4] (.v (.int .i64 ((nbits 4 a : Nat) : Int))) := by
  rcases Decidable.em (a / 18446744073709551616 ^ 3 % 18446744073709551616 = 0) with h3 | h3
  rotate_left
  · refine (bitsS_0 a  h3).same ?_
    have hb := Lib.bitLen_le (a / 18446744073709551616 ^ 3 % 18446744073709551616) 64 (Nat.le_refl _) (Nat.mod_lt _ (by decide))
    have e : nbits 4 a = 192 + Lib.bitLen (a / 18446744073709551616 ^ 3 % 18446744073709551616) := by simp only [nbits, if_neg h3]
    rw [e]
    exact congrArg (fun z => some (Value.int .i64 z)) (wrap_bits 192 _ (by decide) hb).symm
  rcases Decidable.em (a / 18446744073709551616 ^ 2 % 18446744073709551616 = 0) with h2 | h2
  rotate_left
  · refine (bitsS_1 a h3 h2).same ?_
    have hb := Lib.bitLen_le (a / 18446744073709551616 ^ 2 % 18446744073709551616) 64 (Nat.le_refl _) (Nat.mod_lt _ (by decide))
    have e : nbits 4 a = 128 + Lib.bitLen (a / 18446744073709551616 ^ 2 % 18446744073709551616) := by simp only [nbits, if_pos h3, if_neg h2]
    rw [e]
    exact congrArg (fun z => some (Value.int .i64 z)) (wrap_bits 128 _ (by decide) hb).symm
  rcases Decidable.em (a / 18446744073709551616 ^ 1 % 18446744073709551616 = 0) with h1 | h1
  rotate_left
  · refine (bitsS_2 a h3 h2 h1).same ?_
    have hb := Lib.bitLen_le (a / 18446744073709551616 ^ 1 % 18446744073709551616) 64 (Nat.le_refl _) (Nat.mod_lt _ (by decide))
    have e : nbits 4 a = 64 + Lib.bitLen (a / 18446744073709551616 ^ 1 % 18446744073709551616) := by simp only [nbits, if_pos h3, if_pos h2, if_neg h1]
    rw [e]
    exact congrArg (fun z => some (Value.int .i64 z)) (wrap_bits 64 _ (by decide) hb).symm
  rcases Decidable.em (a / 18446744073709551616 ^ 0 % 18446744073709551616 = 0) with h0 | h0
  rotate_left
  · refine (bitsS_3 a h3 h2 h1 h0).same ?_
    have hb := Lib.bitLen_le (a / 18446744073709551616 ^ 0 % 18446744073709551616) 64 (Nat.le_refl _) (Nat.mod_lt _ (by decide))
    have e : nbits 4 a = 0 + Lib.bitLen (a / 18446744073709551616 ^ 0 % 18446744073709551616) := by simp only [nbits, if_pos h3, if_pos h2, if_pos h1, if_neg h0]
    rw [e]
    exact congrArg (fun z => some (Value.int .i64 z)) (wrap_bits 0 _ (by decide) hb).symm
  refine (bitsS_4 a h3 h2 h1 h0).same ?_
  have e : nbits 4 a = 0 := by simp only [nbits, if_pos h3, if_pos h2, if_pos h1, if_pos h0]
  rw [e]
  rfl
def eBitsS : Entry := entry1 88 (XPar.rd 4 parN4 (fun _ => rfl)) (fun a => [(some (a < 18446744073709551616 ^ 4), .v (.int .i64 ((nbits 4 a : Nat) : Int)))])
theorem eBitsS_ok : eBitsS.OK Try.prog := entry1_ok (fun args w => Go.Proofs.enters_of (P := Try.prog) Try.func88 (by kernel_rfl) rfl args w) (fun a => onlyIf (fun h => bitsS a h))
end Go.Proofs.Ytoigbjimhcgolaa
