/- Pruned: Gf. -/
import Derived.Test.YtmbllhibdbeplaaQZhRcS
import Derived.Test.YtmbllhibdbeplaaQZhCmS
import Derived.Test.YtmbllhibdbeplaaQGb
import Derived.Test.YtmbllhibdbeplaaQGa
/- The contract of the layer fr: which numbers are elements. -/
set_option linter.unusedSimpArgs false
set_option linter.unusedVariables false
namespace Go.Proofs.Ytmbllhibdbeplaa
open Go.Ev Go.RowKit

theorem rightS_lo (a : Nat) (ha : a < 115792089237316195423570985008687907853269984665640564039457584007913129639936) (h : a < 52435875175126190479447740508185965837690552500527637822603658699938581184513) : Gives Try.prog 33 [.t (.ag [.n 4 a])] (.v (.bool true)) :=
  fn_gives (P := Try.prog) (env := [eCmpS, eRS]) ⟨eCmpS_ok, eRS_ok, trivial⟩ Try.func33 0 (oN [] [(7, 0)]) (by kernel_rfl)
      (And.intro (show a < 115792089237316195423570985008687907853269984665640564039457584007913129639936 ∧ 52435875175126190479447740508185965837690552500527637822603658699938581184513 < 115792089237316195423570985008687907853269984665640564039457584007913129639936 ∧ a < 52435875175126190479447740508185965837690552500527637822603658699938581184513 from ⟨ha, by decide, h⟩) trivial)
theorem rightS_eq (a : Nat) (ha : a < 115792089237316195423570985008687907853269984665640564039457584007913129639936) (h : a = 52435875175126190479447740508185965837690552500527637822603658699938581184513) : Gives Try.prog 33 [.t (.ag [.n 4 a])] (.v (.bool false)) :=
  fn_gives (P := Try.prog) (env := [eCmpS, eRS]) ⟨eCmpS_ok, eRS_ok, trivial⟩ Try.func33 0 (oN [] [(7, 1)]) (by kernel_rfl)
      (And.intro (show a < 115792089237316195423570985008687907853269984665640564039457584007913129639936 ∧ 52435875175126190479447740508185965837690552500527637822603658699938581184513 < 115792089237316195423570985008687907853269984665640564039457584007913129639936 ∧ a = 52435875175126190479447740508185965837690552500527637822603658699938581184513 from ⟨ha, by decide, h⟩) trivial)
theorem rightS_hi (a : Nat) (ha : a < 115792089237316195423570985008687907853269984665640564039457584007913129639936) (h : 52435875175126190479447740508185965837690552500527637822603658699938581184513 < a) : Gives Try.prog 33 [.t (.ag [.n 4 a])] (.v (.bool false)) :=
  fn_gives (P := Try.prog) (env := [eCmpS, eRS]) ⟨eCmpS_ok, eRS_ok, trivial⟩ Try.func33 0 (oN [] [(7, 2)]) (by kernel_rfl)
      (And.intro (show a < 115792089237316195423570985008687907853269984665640564039457584007913129639936 ∧ 52435875175126190479447740508185965837690552500527637822603658699938581184513 < 115792089237316195423570985008687907853269984665640564039457584007913129639936 ∧ 52435875175126190479447740508185965837690552500527637822603658699938581184513 < a from ⟨ha, by decide, h⟩) trivial)
theorem rightS_no (a : Nat) (ha : a < 115792089237316195423570985008687907853269984665640564039457584007913129639936) (h : 52435875175126190479447740508185965837690552500527637822603658699938581184513 ≤ a) : Gives Try.prog 33 [.t (.ag [.n 4 a])] (.v (.bool false)) := by
  rcases Nat.lt_or_eq_of_le h with h | h
  · exact rightS_hi a ha h
  · exact rightS_eq a ha h.symm
def eFRightS : Entry := entry1 33 parN4.x (fun a => [(some (a < 115792089237316195423570985008687907853269984665640564039457584007913129639936 ∧ a < 52435875175126190479447740508185965837690552500527637822603658699938581184513), .v (.bool true)), (some (a < 115792089237316195423570985008687907853269984665640564039457584007913129639936 ∧ 52435875175126190479447740508185965837690552500527637822603658699938581184513 ≤ a), .v (.bool false))])
theorem eFRightS_ok : eFRightS.OK Try.prog := entry1_ok (fun args w => Go.Proofs.enters_of (P := Try.prog) Try.func33 (by kernel_rfl) rfl args w) (fun a c r hm hc => by
  simp only [List.mem_cons, Prod.mk.injEq, List.not_mem_nil, or_false] at hm
  rcases hm with ⟨rfl, rfl⟩ | ⟨rfl, rfl⟩
  · exact rightS_lo a hc.1 hc.2
  · exact rightS_no a hc.1 hc.2)
end Go.Proofs.Ytmbllhibdbeplaa

/- Contracts: numbers as bytes and back, the layer fr and its reference. -/
set_option linter.unusedSimpArgs false
set_option linter.unusedVariables false
namespace Go.Proofs.Ytmbllhibdbeplaa
open Go.Ev Go.RowKit

/-- The limbs that the bytes make, as a number. -/
def numS (l : List UInt8) : Nat := pre l 3 8 % 18446744073709551616 + 18446744073709551616 * (pre l 2 8 % 18446744073709551616 + 18446744073709551616 * (pre l 1 8 % 18446744073709551616 + 18446744073709551616 * (pre l 0 8 % 18446744073709551616 + 18446744073709551616 * (0))))
theorem numS_eq (l : List UInt8) : numS l = deN 32 l := by
  have e : deN 32 l = pre l 0 (8 * (0 + 4)) := rfl
  have l0 : pre l 0 8 < 18446744073709551616 := pre_lt l 0 8
  have l1 : pre l 1 8 < 18446744073709551616 := pre_lt l 1 8
  have l2 : pre l 2 8 < 18446744073709551616 := pre_lt l 2 8
  have l3 : pre l 3 8 < 18446744073709551616 := pre_lt l 3 8
  rw [e, show 8 * (0 + 4) = 8 * (3 + 1) from rfl, pre_eight, show 8 * 3 = 8 * (2 + 1) from rfl, pre_eight, show 8 * 2 = 8 * (1 + 1) from rfl, pre_eight, show 8 * 1 = 8 * (0 + 1) from rfl, pre_eight]
  unfold numS
  rw [Nat.mod_eq_of_lt l0]
  rw [Nat.mod_eq_of_lt l1]
  rw [Nat.mod_eq_of_lt l2]
  rw [Nat.mod_eq_of_lt l3]
  simp only [pre, Nat.mul_zero, Nat.zero_mul, Nat.zero_add]
  omega
theorem piecesS (l : List UInt8) (h : deN 32 l < 52435875175126190479447740508185965837690552500527637822603658699938581184513) : (AV.tp [.ag [.n 1 (pre l 3 8), .n 1 (pre l 2 8), .n 1 (pre l 1 8), .n 1 (pre l 0 8)], .v (.int .i64 0)]).val? = (AV.tp [.ag [.e (ofR (deN 32 l))], .v (.int .i64 0)]).val? := by
  have e1 := cells64_ok 4 [.n 1 (pre l 3 8), .n 1 (pre l 2 8), .n 1 (pre l 1 8), .n 1 (pre l 0 8)] (numS l) [] rfl
  rw [numS_eq] at e1
  have e2 : flat [Ch.e (ofR (deN 32 l))] = limbs 4 (deN 32 l) := by simp only [flat, Ch.cells, List.append_nil]; rw [show (ofR (deN 32 l)).val = deN 32 l from Nat.mod_eq_of_lt h]
  have e3 : flat [.n 1 (pre l 3 8), .n 1 (pre l 2 8), .n 1 (pre l 1 8), .n 1 (pre l 0 8)] = flat [Ch.e (ofR (deN 32 l))] := by rw [e1, e2]; simp [flat]
  have e4 := ag_same (a := [.n 1 (pre l 3 8), .n 1 (pre l 2 8), .n 1 (pre l 1 8), .n 1 (pre l 0 8)]) (b := [Ch.e (ofR (deN 32 l))]) rfl rfl e3
  simp only [AV.val?, AV.vals?] at e4 ⊢
  rw [e4]
def osRGS (B : Nat → Nat) : List Ora := [rO 1 (B 0), rO 1 (B 1), rO 1 (B 2), rO 1 (B 3), rO 1 (B 4), rO 1 (B 5), rO 1 (B 6), rO 1 (B 7), rO 1 (B 8), rO 1 (B 9), rO 1 (B 10), rO 1 (B 11), rO 1 (B 12), rO 1 (B 13), rO 1 (B 14), rO 1 (B 15), rO 1 (B 16), rO 1 (B 17), rO 1 (B 18), rO 1 (B 19), rO 1 (B 20), rO 1 (B 21), rO 1 (B 22), rO 1 (B 23), rO 1 (B 24), rO 1 (B 25), rO 1 (B 26), rO 1 (B 27), rO 1 (B 28), rO 1 (B 29), rO 1 (B 30), rO 1 (B 31)]
def osCGS (B : Nat → Nat) : List Ora := [{ ch := 2, hi := fun _ => B 0 }, { ch := 2, hi := fun _ => B 1 }, { ch := 2, hi := fun _ => B 2 }, { ch := 2, hi := fun _ => B 3 }, { ch := 2, hi := fun _ => B 4 }, { ch := 2, hi := fun _ => B 5 }, { ch := 2, hi := fun _ => B 6 }, { ch := 2, hi := fun _ => B 7 }, { ch := 2, hi := fun _ => B 8 }, { ch := 2, hi := fun _ => B 9 }, { ch := 2, hi := fun _ => B 10 }, { ch := 2, hi := fun _ => B 11 }, { ch := 2, hi := fun _ => B 12 }, { ch := 2, hi := fun _ => B 13 }, { ch := 2, hi := fun _ => B 14 }, { ch := 2, hi := fun _ => B 15 }, { ch := 2, hi := fun _ => B 16 }, { ch := 2, hi := fun _ => B 17 }, { ch := 2, hi := fun _ => B 18 }, { ch := 2, hi := fun _ => B 19 }, { ch := 2, hi := fun _ => B 20 }, { ch := 2, hi := fun _ => B 21 }, { ch := 2, hi := fun _ => B 22 }, { ch := 2, hi := fun _ => B 23 }, { ch := 2, hi := fun _ => B 24 }, { ch := 2, hi := fun _ => B 25 }, { ch := 2, hi := fun _ => B 26 }, { ch := 2, hi := fun _ => B 27 }, { ch := 2, hi := fun _ => B 28 }, { ch := 2, hi := fun _ => B 29 }, { ch := 2, hi := fun _ => B 30 }, { ch := 2, hi := fun _ => B 31 }]
def osNGS (W : Nat → Nat → Nat) : List Ora := [{ ch := 1, hi := fun _ => W 0 1 }, { ch := 1, hi := fun _ => W 0 2 }, { ch := 1, hi := fun _ => W 0 3 }, { ch := 1, hi := fun _ => W 0 4 }, { ch := 1, hi := fun _ => W 0 5 }, { ch := 1, hi := fun _ => W 0 6 }, { ch := 1, hi := fun _ => W 0 7 }, { ch := 1, hi := fun _ => W 0 8 }, { ch := 1, hi := fun _ => W 1 1 }, { ch := 1, hi := fun _ => W 1 2 }, { ch := 1, hi := fun _ => W 1 3 }, { ch := 1, hi := fun _ => W 1 4 }, { ch := 1, hi := fun _ => W 1 5 }, { ch := 1, hi := fun _ => W 1 6 }, { ch := 1, hi := fun _ => W 1 7 }, { ch := 1, hi := fun _ => W 1 8 }, { ch := 1, hi := fun _ => W 2 1 }, { ch := 1, hi := fun _ => W 2 2 }, { ch := 1, hi := fun _ => W 2 3 }, { ch := 1, hi := fun _ => W 2 4 }, { ch := 1, hi := fun _ => W 2 5 }, { ch := 1, hi := fun _ => W 2 6 }, { ch := 1, hi := fun _ => W 2 7 }, { ch := 1, hi := fun _ => W 2 8 }, { ch := 1, hi := fun _ => W 3 1 }, { ch := 1, hi := fun _ => W 3 2 }, { ch := 1, hi := fun _ => W 3 3 }, { ch := 1, hi := fun _ => W 3 4 }, { ch := 1, hi := fun _ => W 3 5 }, { ch := 1, hi := fun _ => W 3 6 }, { ch := 1, hi := fun _ => W 3 7 }, { ch := 1, hi := fun _ => W 3 8 }]
def osGS (B : Nat → Nat) (W : Nat → Nat → Nat) (last : List (Nat × Ora)) : Nat → Ora := fun id =>
  match lookL [3, 10, 14, 25] id with
  | true => nV 32
  | false =>
    match Nat.ble 45 id, Nat.blt id 828 with
    | true, true => (match (id - 45) % 25 with
      | 0 => selO (osRGS B) ((id - 45) / 25)
      | 1 => selO (osCGS B) ((id - 45) / 25)
      | 2 => selO (osNGS W) ((id - 45) / 25)
      | _ => { ch := 0, hi := fun _ => 0 })
    | _, _ => oL last id
theorem num_ltS (l : List UInt8) : numS l < 115792089237316195423570985008687907853269984665640564039457584007913129639936 := by rw [numS_eq]; exact deN_lt 32 l
set_option maxRecDepth 100000 in
theorem fgetS_okW (l : List UInt8) (B : Nat → Nat) (W : Nat → Nat → Nat) (h : l.length = 32) (hR : ∀ i : Nat, i < 32 → (0 : Int) ≤ (i : Int) ∧ (i : Int) < (ofL l).size ∧ ((ofL l)[(i : Int).toNat]?.getD 0).toNat = B i) (hC : ∀ i, IntKind.u64 = IntKind.u64 ∧ IntKind.u64.wrap ((B i : Nat) : Int) = ((B i % 18446744073709551616 : Nat) : Int)) (h0 : ∀ k, (0 ||| B (8 * k + 0) % 18446744073709551616) % 18446744073709551616 = W k 1 % 18446744073709551616) (h1 : ∀ k m, m < 8 → (W k m / 18446744073709551616 ^ 0 * 2 ^ min 8 64 % 18446744073709551616 ||| B (8 * k + m) % 18446744073709551616) % 18446744073709551616 = W k (m + 1) % 18446744073709551616) (hN : (W 3 8 % 18446744073709551616 + 18446744073709551616 * (W 2 8 % 18446744073709551616 + 18446744073709551616 * (W 1 8 % 18446744073709551616 + 18446744073709551616 * (W 0 8 % 18446744073709551616 + 18446744073709551616 * (0))))) < 115792089237316195423570985008687907853269984665640564039457584007913129639936 ∧ (W 3 8 % 18446744073709551616 + 18446744073709551616 * (W 2 8 % 18446744073709551616 + 18446744073709551616 * (W 1 8 % 18446744073709551616 + 18446744073709551616 * (W 0 8 % 18446744073709551616 + 18446744073709551616 * (0))))) < 52435875175126190479447740508185965837690552500527637822603658699938581184513) : Gives Try.prog 24 [.t (.v (.string (ofL l)))] (.tp [.ag [.n 1 (W 3 8), .n 1 (W 2 8), .n 1 (W 1 8), .n 1 (W 0 8)], .v (.int .i64 0)]) :=
  fn_gives_at (P := Try.prog) (X := rulesX _) (env := [eFRightS]) ⟨eFRightS_ok, trivial⟩ Try.func24 1 (osGS B W [(844, wO 0)]) (by kernel_rfl) ⟨_, rfl⟩
    (And.intro (hN) (And.intro (h1 3 7 (by decide)) (And.intro (hC 31) (And.intro (hR 31 (by decide)) (And.intro (h1 3 6 (by decide)) (And.intro (hC 30) (And.intro (hR 30 (by decide)) (And.intro (h1 3 5 (by decide)) (And.intro (hC 29) (And.intro (hR 29 (by decide)) (And.intro (h1 3 4 (by decide)) (And.intro (hC 28) (And.intro (hR 28 (by decide)) (And.intro (h1 3 3 (by decide)) (And.intro (hC 27) (And.intro (hR 27 (by decide)) (And.intro (h1 3 2 (by decide)) (And.intro (hC 26) (And.intro (hR 26 (by decide)) (And.intro (h1 3 1 (by decide)) (And.intro (hC 25) (And.intro (hR 25 (by decide)) (And.intro (h0 3) (And.intro (hC 24) (And.intro (hR 24 (by decide)) (And.intro (h1 2 7 (by decide)) (And.intro (hC 23) (And.intro (hR 23 (by decide)) (And.intro (h1 2 6 (by decide)) (And.intro (hC 22) (And.intro (hR 22 (by decide)) (And.intro (h1 2 5 (by decide)) (And.intro (hC 21) (And.intro (hR 21 (by decide)) (And.intro (h1 2 4 (by decide)) (And.intro (hC 20) (And.intro (hR 20 (by decide)) (And.intro (h1 2 3 (by decide)) (And.intro (hC 19) (And.intro (hR 19 (by decide)) (And.intro (h1 2 2 (by decide)) (And.intro (hC 18) (And.intro (hR 18 (by decide)) (And.intro (h1 2 1 (by decide)) (And.intro (hC 17) (And.intro (hR 17 (by decide)) (And.intro (h0 2) (And.intro (hC 16) (And.intro (hR 16 (by decide)) (And.intro (h1 1 7 (by decide)) (And.intro (hC 15) (And.intro (hR 15 (by decide)) (And.intro (h1 1 6 (by decide)) (And.intro (hC 14) (And.intro (hR 14 (by decide)) (And.intro (h1 1 5 (by decide)) (And.intro (hC 13) (And.intro (hR 13 (by decide)) (And.intro (h1 1 4 (by decide)) (And.intro (hC 12) (And.intro (hR 12 (by decide)) (And.intro (h1 1 3 (by decide)) (And.intro (hC 11) (And.intro (hR 11 (by decide)) (And.intro (h1 1 2 (by decide)) (And.intro (hC 10) (And.intro (hR 10 (by decide)) (And.intro (h1 1 1 (by decide)) (And.intro (hC 9) (And.intro (hR 9 (by decide)) (And.intro (h0 1) (And.intro (hC 8) (And.intro (hR 8 (by decide)) (And.intro (h1 0 7 (by decide)) (And.intro (hC 7) (And.intro (hR 7 (by decide)) (And.intro (h1 0 6 (by decide)) (And.intro (hC 6) (And.intro (hR 6 (by decide)) (And.intro (h1 0 5 (by decide)) (And.intro (hC 5) (And.intro (hR 5 (by decide)) (And.intro (h1 0 4 (by decide)) (And.intro (hC 4) (And.intro (hR 4 (by decide)) (And.intro (h1 0 3 (by decide)) (And.intro (hC 3) (And.intro (hR 3 (by decide)) (And.intro (h1 0 2 (by decide)) (And.intro (hC 2) (And.intro (hR 2 (by decide)) (And.intro (h1 0 1 (by decide)) (And.intro (hC 1) (And.intro (hR 1 (by decide)) (And.intro (h0 0) (And.intro (hC 0) (And.intro (hR 0 (by decide)) (And.intro (show ((l.length : Nat) : Int) = ((32 : Nat) : Int) from by rw [h]) (And.intro (show ((l.length : Nat) : Int) = ((32 : Nat) : Int) from by rw [h]) (And.intro (show ((l.length : Nat) : Int) = ((32 : Nat) : Int) from by rw [h]) (And.intro (show ((l.length : Nat) : Int) = ((32 : Nat) : Int) from by rw [h]) trivial)))))))))))))))))))))))))))))))))))))))))))))))))))))))))))))))))))))))))))))))))))))))))))))))))))))
set_option maxRecDepth 100000 in
theorem fgetS_noW (l : List UInt8) (B : Nat → Nat) (W : Nat → Nat → Nat) (h : l.length = 32) (hR : ∀ i : Nat, i < 32 → (0 : Int) ≤ (i : Int) ∧ (i : Int) < (ofL l).size ∧ ((ofL l)[(i : Int).toNat]?.getD 0).toNat = B i) (hC : ∀ i, IntKind.u64 = IntKind.u64 ∧ IntKind.u64.wrap ((B i : Nat) : Int) = ((B i % 18446744073709551616 : Nat) : Int)) (h0 : ∀ k, (0 ||| B (8 * k + 0) % 18446744073709551616) % 18446744073709551616 = W k 1 % 18446744073709551616) (h1 : ∀ k m, m < 8 → (W k m / 18446744073709551616 ^ 0 * 2 ^ min 8 64 % 18446744073709551616 ||| B (8 * k + m) % 18446744073709551616) % 18446744073709551616 = W k (m + 1) % 18446744073709551616) (hN : (W 3 8 % 18446744073709551616 + 18446744073709551616 * (W 2 8 % 18446744073709551616 + 18446744073709551616 * (W 1 8 % 18446744073709551616 + 18446744073709551616 * (W 0 8 % 18446744073709551616 + 18446744073709551616 * (0))))) < 115792089237316195423570985008687907853269984665640564039457584007913129639936 ∧ 52435875175126190479447740508185965837690552500527637822603658699938581184513 ≤ (W 3 8 % 18446744073709551616 + 18446744073709551616 * (W 2 8 % 18446744073709551616 + 18446744073709551616 * (W 1 8 % 18446744073709551616 + 18446744073709551616 * (W 0 8 % 18446744073709551616 + 18446744073709551616 * (0)))))) : Gives Try.prog 24 [.t (.v (.string (ofL l)))] (.tp [.ag [.c (.int .u64 0), .c (.int .u64 0), .c (.int .u64 0), .c (.int .u64 0)], .v (.int .i64 20)]) :=
  fn_gives_at (P := Try.prog) (X := rulesX _) (env := [eFRightS]) ⟨eFRightS_ok, trivial⟩ Try.func24 1 (osGS B W [(844, wO 1)]) (by kernel_rfl) ⟨_, rfl⟩
    (And.intro (hN) (And.intro (h1 3 7 (by decide)) (And.intro (hC 31) (And.intro (hR 31 (by decide)) (And.intro (h1 3 6 (by decide)) (And.intro (hC 30) (And.intro (hR 30 (by decide)) (And.intro (h1 3 5 (by decide)) (And.intro (hC 29) (And.intro (hR 29 (by decide)) (And.intro (h1 3 4 (by decide)) (And.intro (hC 28) (And.intro (hR 28 (by decide)) (And.intro (h1 3 3 (by decide)) (And.intro (hC 27) (And.intro (hR 27 (by decide)) (And.intro (h1 3 2 (by decide)) (And.intro (hC 26) (And.intro (hR 26 (by decide)) (And.intro (h1 3 1 (by decide)) (And.intro (hC 25) (And.intro (hR 25 (by decide)) (And.intro (h0 3) (And.intro (hC 24) (And.intro (hR 24 (by decide)) (And.intro (h1 2 7 (by decide)) (And.intro (hC 23) (And.intro (hR 23 (by decide)) (And.intro (h1 2 6 (by decide)) (And.intro (hC 22) (And.intro (hR 22 (by decide)) (And.intro (h1 2 5 (by decide)) (And.intro (hC 21) (And.intro (hR 21 (by decide)) (And.intro (h1 2 4 (by decide)) (And.intro (hC 20) (And.intro (hR 20 (by decide)) (And.intro (h1 2 3 (by decide)) (And.intro (hC 19) (And.intro (hR 19 (by decide)) (And.intro (h1 2 2 (by decide)) (And.intro (hC 18) (And.intro (hR 18 (by decide)) (And.intro (h1 2 1 (by decide)) (And.intro (hC 17) (And.intro (hR 17 (by decide)) (And.intro (h0 2) (And.intro (hC 16) (And.intro (hR 16 (by decide)) (And.intro (h1 1 7 (by decide)) (And.intro (hC 15) (And.intro (hR 15 (by decide)) (And.intro (h1 1 6 (by decide)) (And.intro (hC 14) (And.intro (hR 14 (by decide)) (And.intro (h1 1 5 (by decide)) (And.intro (hC 13) (And.intro (hR 13 (by decide)) (And.intro (h1 1 4 (by decide)) (And.intro (hC 12) (And.intro (hR 12 (by decide)) (And.intro (h1 1 3 (by decide)) (And.intro (hC 11) (And.intro (hR 11 (by decide)) (And.intro (h1 1 2 (by decide)) (And.intro (hC 10) (And.intro (hR 10 (by decide)) (And.intro (h1 1 1 (by decide)) (And.intro (hC 9) (And.intro (hR 9 (by decide)) (And.intro (h0 1) (And.intro (hC 8) (And.intro (hR 8 (by decide)) (And.intro (h1 0 7 (by decide)) (And.intro (hC 7) (And.intro (hR 7 (by decide)) (And.intro (h1 0 6 (by decide)) (And.intro (hC 6) (And.intro (hR 6 (by decide)) (And.intro (h1 0 5 (by decide)) (And.intro (hC 5) (And.intro (hR 5 (by decide)) (And.intro (h1 0 4 (by decide)) (And.intro (hC 4) (And.intro (hR 4 (by decide)) (And.intro (h1 0 3 (by decide)) (And.intro (hC 3) (And.intro (hR 3 (by decide)) (And.intro (h1 0 2 (by decide)) (And.intro (hC 2) (And.intro (hR 2 (by decide)) (And.intro (h1 0 1 (by decide)) (And.intro (hC 1) (And.intro (hR 1 (by decide)) (And.intro (h0 0) (And.intro (hC 0) (And.intro (hR 0 (by decide)) (And.intro (show ((l.length : Nat) : Int) = ((32 : Nat) : Int) from by rw [h]) (And.intro (show ((l.length : Nat) : Int) = ((32 : Nat) : Int) from by rw [h]) (And.intro (show ((l.length : Nat) : Int) = ((32 : Nat) : Int) from by rw [h]) (And.intro (show ((l.length : Nat) : Int) = ((32 : Nat) : Int) from by rw [h]) trivial)))))))))))))))))))))))))))))))))))))))))))))))))))))))))))))))))))))))))))))))))))))))))))))))))))))
theorem fgetS_ok (l : List UInt8) (h : l.length = 32) (hp : deN 32 l < 52435875175126190479447740508185965837690552500527637822603658699938581184513) : Gives Try.prog 24 [.t (.v (.string (ofL l)))] (.tp [.ag [.e (ofR (deN 32 l))], .v (.int .i64 0)]) :=
  Gives.same (fgetS_okW l (byt l) (pre l) h (fun i hi => read_byte l 32 i h hi) (conv_byte l) (pre_or0 l) (fun k m hm => by rw [Nat.pow_zero, Nat.div_one]; exact pre_or l k m hm) (show numS l < 115792089237316195423570985008687907853269984665640564039457584007913129639936 ∧ numS l < 52435875175126190479447740508185965837690552500527637822603658699938581184513 from ⟨num_ltS l, by rw [numS_eq]; exact hp⟩)) (piecesS l hp).symm
theorem fgetS_no (l : List UInt8) (h : l.length = 32) (hp : 52435875175126190479447740508185965837690552500527637822603658699938581184513 ≤ deN 32 l) : Gives Try.prog 24 [.t (.v (.string (ofL l)))] (.tp [.ag [.c (.int .u64 0), .c (.int .u64 0), .c (.int .u64 0), .c (.int .u64 0)], .v (.int .i64 20)]) :=
  fgetS_noW l (byt l) (pre l) h (fun i hi => read_byte l 32 i h hi) (conv_byte l) (pre_or0 l) (fun k m hm => by rw [Nat.pow_zero, Nat.div_one]; exact pre_or l k m hm) (show numS l < 115792089237316195423570985008687907853269984665640564039457584007913129639936 ∧ 52435875175126190479447740508185965837690552500527637822603658699938581184513 ≤ numS l from ⟨num_ltS l, by rw [numS_eq]; exact hp⟩)
theorem fgetS_len (l : List UInt8) (h : l.length ≠ 32) : Gives Try.prog 24 [.t (.v (.string (ofL l)))] (.tp [.ag [.c (.int .u64 0), .c (.int .u64 0), .c (.int .u64 0), .c (.int .u64 0)], .v (.int .i64 3)]) := by
  exact fn_gives_at (P := Try.prog) (X := rulesX _) (env := [eFRightS]) ⟨eFRightS_ok, trivial⟩ Try.func24 1 (oL [(4, wT)]) (by kernel_rfl) ⟨_, rfl⟩
    (And.intro (show ((((l.length : Nat) : Int) != 32) = true) from by simp; omega) trivial)
end Go.Proofs.Ytmbllhibdbeplaa

/- Contracts of format.clean and of chirographlaw23.clean, numbers, count: lists of elements, counts as bytes. -/
set_option linter.unusedSimpArgs false
set_option linter.unusedVariables false
namespace Go.Proofs.Ytmbllhibdbeplaa
open Go.Ev Go.RowKit
def cleanN (ns : List Nat) : Prop := ∀ x, x ∈ ns → x < Rr
instance (ns : List Nat) : Decidable (cleanN ns) := inferInstanceAs (Decidable (∀ x, x ∈ ns → x < Rr))
theorem num_at (ns : List Nat) (i x : Nat) (h : ns[i]? = some x) : sizes [.n 4 x] = 4 ∧ ((flat [.l (numC 4 ns)]).drop (i * 4)).take 4 = flat [.n 4 x] := by
  refine ⟨rfl, ?_⟩
  rw [flat_l]
  have := rows_at (limbs 4) (limbs_length 4) ns i x h
  rw [show numC 4 ns = ns.flatMap (limbs 4) from rfl, this]
  simp [flat, Ch.cells]
/-! format.clean -/
end Go.Proofs.Ytmbllhibdbeplaa

/- Contracts of chirographlaw23.clean, numbers and count, and of format.count. -/
set_option linter.unusedSimpArgs false
set_option linter.unusedVariables false
namespace Go.Proofs.Ytmbllhibdbeplaa
open Go.Ev Go.RowKit
/-! chirographlaw23.clean -/
/-! chirographlaw23.numbers -/
/-! counts -/
def b4 (k : IntKind) (n : Int) : List UInt8 := [UInt8.ofNat (IntKind.u8.wrap (n.fdiv (2 ^ min 24 k.bits))).toNat, UInt8.ofNat (IntKind.u8.wrap (n.fdiv (2 ^ min 16 k.bits))).toNat, UInt8.ofNat (IntKind.u8.wrap (n.fdiv (2 ^ min 8 k.bits))).toNat, UInt8.ofNat (IntKind.u8.wrap n).toNat]
def eFCnt : Entry := entry1 29 (XPar.int .u32) (fun n => [(none, .v (.string (ofL (b4 .u32 n))))])
theorem eFCnt_ok : eFCnt.OK Try.prog := entry1_ok (fun args w => Go.Proofs.enters_of (P := Try.prog) Try.func29 (by kernel_rfl) rfl args w) (fun n => only (fn_gives (P := Try.prog) (env := []) trivial Try.func29 0 o0 (by kernel_rfl) trivial))
end Go.Proofs.Ytmbllhibdbeplaa

/- Contracts of circuit.Right and of chirographref18.Right: which circuits may be. -/
set_option linter.unusedSimpArgs false
set_option linter.unusedVariables false
namespace Go.Proofs.Ytmbllhibdbeplaa
open Go.Ev Go.RowKit
structure GT where
  q0 : Nat
  q1 : Nat
  q2 : Nat
  q3 : Nat
  q4 : Nat
  w0 : Int
  w1 : Int
  w2 : Int
def bw (vars v : Int) : Prop := v < -1 ∨ v ≥ vars
instance (vars v : Int) : Decidable (bw vars v) := inferInstanceAs (Decidable (_ ∨ _))
def okW (vars : Int) (g : GT) : Prop := ¬ bw vars g.w0 ∧ ¬ bw vars g.w1 ∧ ¬ bw vars g.w2
instance (vars : Int) (g : GT) : Decidable (okW vars g) := inferInstanceAs (Decidable (_ ∧ _))
/-! chirographref18.Right -/
/-! circuit.Right -/
end Go.Proofs.Ytmbllhibdbeplaa

/- Contract of format.PutCircuit. -/
set_option linter.unusedSimpArgs false
set_option linter.unusedVariables false
namespace Go.Proofs.Ytmbllhibdbeplaa
open Go.Ev Go.RowKit
def gN (g : GT) : List Nat := [g.q0, g.q1, g.q2, g.q3, g.q4]
def cleanG (g : GT) : Prop := cleanN (gN g)
instance (g : GT) : Decidable (cleanG g) := inferInstanceAs (Decidable (cleanN _))
theorem flat_y (l : List UInt8) : flat [.y l] = l.map byteV := by simp [flat, Ch.cells]
end Go.Proofs.Ytmbllhibdbeplaa
