/- Pruned: Gu. -/
import Derived.Test.YtokjhbmmdmeafaaGreatQGj
import Derived.Test.YtokjhbmmdmeafaaGreatQGm
import Derived.Test.YtokjhbmmdmeafaaGreatQGo
import Derived.Test.YtokjhbmmdmeafaaGreatQGt
import Derived.Test.YtokjhbmmdmeafaaGreatQGg
import Derived.Test.YtokjhbmmdmeafaaGreatQGf
set_option linter.unusedSimpArgs false
set_option linter.unusedVariables false
namespace Go.Proofs.YtokjhbmmdmeafaaGreat
open Go.Ev Go.RowKit
open Tryz
theorem OE {l : LU0} {n : Nat} (h : l.length = n) : l.take n = l := List.take_of_length_le (by omega)
end Go.Proofs.YtokjhbmmdmeafaaGreat
set_option linter.unusedSimpArgs false
set_option linter.unusedVariables false
namespace Go.Proofs.YtokjhbmmdmeafaaGreat
open Go.Ev Go.RowKit
open Tryz
theorem four (y : LU0) (h : 4 <= y.length) : ∃ a b c d r, y = a :: b :: c :: d :: r := by
 match y, h with
 | a :: b :: c :: d :: r, _ => exact ⟨a, b, c, d, r, rfl⟩
theorem WY (n : Nat) : b4 .i64 (n : Int) = [UInt8.ofNat (n / 16777216 % 256), UInt8.ofNat (n / 65536 % 256), UInt8.ofNat (n / 256 % 256), UInt8.ofNat (n % 256)] := by
 have e : ∀ k : Nat, (UInt8.ofNat (IntKind.u8.wrap (((n : Nat) : Int).fdiv ((k : Nat) : Int))).toNat) = UInt8.ofNat (n / k % 256) := fun k => by
  rw [z7, Int.fdiv_eq_ediv_of_nonneg _ (by omega), ← Int.natCast_ediv, show ((n / k : Nat) : Int) % 256 = ((n / k % 256 : Nat) : Int) by omega, Int.toNat_natCast]
 have e1 := e 16777216
 have e2 := e 65536
 have e3 := e 256
 have e0 : UInt8.ofNat (IntKind.u8.wrap ((n : Nat) : Int)).toNat = UInt8.ofNat (n % 256) := by
  rw [z7, show ((n : Nat) : Int) % 256 = ((n % 256 : Nat) : Int) by omega, Int.toNat_natCast]
 show [UInt8.ofNat (IntKind.u8.wrap (((n : Nat) : Int).fdiv (2 ^ min 24 IntKind.i64.bits))).toNat, UInt8.ofNat (IntKind.u8.wrap (((n : Nat) : Int).fdiv (2 ^ min 16 IntKind.i64.bits))).toNat, UInt8.ofNat (IntKind.u8.wrap (((n : Nat) : Int).fdiv (2 ^ min 8 IntKind.i64.bits))).toNat, UInt8.ofNat (IntKind.u8.wrap ((n : Nat) : Int)).toNat] = _
 rw [show (2 : Int) ^ min 24 IntKind.i64.bits = ((16777216 : Nat) : Int) by decide, show (2 : Int) ^ min 16 IntKind.i64.bits = ((65536 : Nat) : Int) by decide, show (2 : Int) ^ min 8 IntKind.i64.bits = ((256 : Nat) : Int) by decide, e1, e2, e3, e0]
theorem KQ (a b c d : UInt8) (r : LU0) : c4 (a :: b :: c :: d :: r) = ((a.toNat * 16777216 + b.toNat * 65536) + c.toNat * 256) + d.toNat := rfl
theorem YN : b4 .i64 (-1) = [255, 255, 255, 255] := by decide +kernel
theorem PN (g : GT) (V : Nat -> Int) : (qfB g V 3).w0 = V 0 /\ (qfB g V 3).w1 = V 1 /\ (qfB g V 3).w2 = V 2 := r30
end Go.Proofs.YtokjhbmmdmeafaaGreat
set_option linter.unusedSimpArgs false
set_option linter.unusedVariables false
namespace Go.Proofs.YtokjhbmmdmeafaaGreat
open Go.Ev Go.RowKit
open Tryz
theorem YF (pub vs : Int) (h1 : 0 <= pub) (h2 : pub <= 0) (h3 : 0 <= vs) : Gives prog 36 [.t (.ag [.c (.slice none 0 0), ci0 pub, ci0 vs])] (.v (.bool true)) :=
 p6 (P := prog) (X := qa _) (env := []) trivial func36 5 (oL [(9, wF), (17, wF), (22, wF)]) (by kernel_rfl) ⟨_, rfl⟩ (And.intro (show decide (vs < 0) = false from decide_eq_false (by omega)) (And.intro (show decide (pub > 0) = false from decide_eq_false (by omega)) (And.intro (show decide (pub < 0) = false from decide_eq_false (by omega)) tt0)))
end Go.Proofs.YtokjhbmmdmeafaaGreat
