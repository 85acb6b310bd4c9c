/- Pruned: Gf. -/
import Derived.Test.YtokjhbmmdmeafaaGreatQHb
import Derived.Test.YtokjhbmmdmeafaaGreatQHe
import Derived.Test.YtokjhbmmdmeafaaGreatQGb
import Derived.Test.YtokjhbmmdmeafaaGreatQGa
set_option linter.unusedSimpArgs false
set_option linter.unusedVariables false
namespace Go.Proofs.YtokjhbmmdmeafaaGreat
open Go.Ev Go.RowKit
open Tryz
abbrev Qr (a : Nat) : Prop := a < 115792089237316195423570985008687907853269984665640564039457584007913129639936
theorem JW (a : Nat) (ha : Qr a) (h : a < 52435875175126190479447740508185965837690552500527637822603658699938581184513) : Gives prog 68 [.t (.ag [.n 4 a])] (.v (.bool true)) :=
 pq (P := prog) (env := [JH, eRS]) ⟨BA, GB, tt0⟩ func68 0 (oN [] [(7, 0)]) (by kernel_rfl) (ai (show a < 115792089237316195423570985008687907853269984665640564039457584007913129639936 /\ 52435875175126190479447740508185965837690552500527637822603658699938581184513 < 115792089237316195423570985008687907853269984665640564039457584007913129639936 /\ a < 52435875175126190479447740508185965837690552500527637822603658699938581184513 from ⟨ha, by decide, h⟩) tt0)
theorem J4 (a : Nat) (ha : Qr a) (h : a = 52435875175126190479447740508185965837690552500527637822603658699938581184513) : Gives prog 68 [.t (.ag [.n 4 a])] (.v (.bool false)) :=
 pq (P := prog) (env := [JH, eRS]) ⟨BA, GB, tt0⟩ func68 0 (oN [] [(7, 1)]) (by kernel_rfl) (ai (show a < 115792089237316195423570985008687907853269984665640564039457584007913129639936 /\ 52435875175126190479447740508185965837690552500527637822603658699938581184513 < 115792089237316195423570985008687907853269984665640564039457584007913129639936 /\ a = 52435875175126190479447740508185965837690552500527637822603658699938581184513 from ⟨ha, by decide, h⟩) tt0)
theorem K7 (a : Nat) (ha : Qr a) (h : 52435875175126190479447740508185965837690552500527637822603658699938581184513 < a) : Gives prog 68 [.t (.ag [.n 4 a])] (.v (.bool false)) :=
 pq (P := prog) (env := [JH, eRS]) ⟨BA, GB, tt0⟩ func68 0 (oN [] [(7, 2)]) (by kernel_rfl) (ai (show a < 115792089237316195423570985008687907853269984665640564039457584007913129639936 /\ 52435875175126190479447740508185965837690552500527637822603658699938581184513 < 115792089237316195423570985008687907853269984665640564039457584007913129639936 /\ 52435875175126190479447740508185965837690552500527637822603658699938581184513 < a from ⟨ha, by decide, h⟩) tt0)
theorem JS (a : Nat) (ha : a < 115792089237316195423570985008687907853269984665640564039457584007913129639936) (h : 52435875175126190479447740508185965837690552500527637822603658699938581184513 <= a) : Gives prog 68 [.t (.ag [.n 4 a])] (.v (.bool false)) := by
 rcases Nat.lt_or_eq_of_le h with h | h
 ·exact K7 a ha h
 ·exact J4 a ha h.symm
def Bg : Entry := pS 68 EJ.x (fun a => [(some (a < 115792089237316195423570985008687907853269984665640564039457584007913129639936 /\ a < 52435875175126190479447740508185965837690552500527637822603658699938581184513), .v (.bool true)), (some (a < 115792089237316195423570985008687907853269984665640564039457584007913129639936 /\ 52435875175126190479447740508185965837690552500527637822603658699938581184513 <= a), .v (.bool false))])
theorem Fx : Bg.OK prog := pE (fun args w => Go.Proofs.enters_of (P := prog) func68 (by kernel_rfl) rfl args w) (fun a c r hm hc => by
 simp only [List.mem_cons, pi0, List.not_mem_nil, or_false] at hm
 rcases hm with ⟨rfl, rfl⟩ | ⟨rfl, rfl⟩
 ·exact JW a hc.1 hc.2
 ·exact JS a hc.1 hc.2)
end Go.Proofs.YtokjhbmmdmeafaaGreat
set_option linter.unusedSimpArgs false
set_option linter.unusedVariables false
namespace Go.Proofs.YtokjhbmmdmeafaaGreat
open Go.Ev Go.RowKit
open Tryz
def FH (l : LU0) : Nat := pre l 3 8 % 18446744073709551616 + 18446744073709551616 * (pre l 2 8 % 18446744073709551616 + 18446744073709551616 * (pre l 1 8 % 18446744073709551616 + 18446744073709551616 * (pre l 0 8 % 18446744073709551616 + 18446744073709551616 * (0))))
theorem Ao (l : LU0) : FH l = deN 32 l := by
 have e : deN 32 l = pre l 0 (8 * (0 + 4)) := rfl
 have l0 : pre l 0 8 < 18446744073709551616 := sT l 0 8
 have l1 : pre l 1 8 < 18446744073709551616 := sT l 1 8
 have l2 : pre l 2 8 < 18446744073709551616 := sT l 2 8
 have l3 : pre l 3 8 < 18446744073709551616 := sT l 3 8
 rw [e, show 8 * (0 + 4) = 8 * (3 + 1) from rfl, ry, show 8 * 3 = 8 * (2 + 1) from rfl, ry, show 8 * 2 = 8 * (1 + 1) from rfl, ry, show 8 * 1 = 8 * (0 + 1) from rfl, ry]
 unfold FH
 rw [Nat.mod_eq_of_lt l0]
 rw [Nat.mod_eq_of_lt l1]
 rw [Nat.mod_eq_of_lt l2]
 rw [Nat.mod_eq_of_lt l3]
 simp only [pre, Nat.mul_zero, Nat.zero_mul, Nat.zero_add]
 omega
theorem Rb (l : LU0) (h : deN 32 l < 52435875175126190479447740508185965837690552500527637822603658699938581184513) : (AV.tp [.ag [.n 1 (pre l 3 8), .n 1 (pre l 2 8), .n 1 (pre l 1 8), .n 1 (pre l 0 8)], vi0 0]).val? = (AV.tp [.ag [.e (ofR (deN 32 l))], vi0 0]).val? := by
 have e1 := qQ 4 [.n 1 (pre l 3 8), .n 1 (pre l 2 8), .n 1 (pre l 1 8), .n 1 (pre l 0 8)] (FH l) [] rfl
 rw [Ao] at e1
 have e2 : flat [Ch.e (ofR (deN 32 l))] = limbs 4 (deN 32 l) := by simp only [flat, Ch.cells, List.append_nil]; rw [show (ofR (deN 32 l)).val = deN 32 l from Nat.mod_eq_of_lt h]
 have e3 : flat [.n 1 (pre l 3 8), .n 1 (pre l 2 8), .n 1 (pre l 1 8), .n 1 (pre l 0 8)] = flat [Ch.e (ofR (deN 32 l))] := by rw [e1, e2]; simp [flat]
 have e4 := qV (a := [.n 1 (pre l 3 8), .n 1 (pre l 2 8), .n 1 (pre l 1 8), .n 1 (pre l 0 8)]) (b := [Ch.e (ofR (deN 32 l))]) rfl rfl e3
 simp only [AV.val?, AV.vals?] at e4 ⊢
 rw [e4]
def YJ (B : Nat -> Nat) : List Ora := [rO 1 (B 0), rO 1 (B 1), rO 1 (B 2), rO 1 (B 3), rO 1 (B 4), rO 1 (B 5), rO 1 (B 6), rO 1 (B 7), rO 1 (B 8), rO 1 (B 9), rO 1 (B 10), rO 1 (B 11), rO 1 (B 12), rO 1 (B 13), rO 1 (B 14), rO 1 (B 15), rO 1 (B 16), rO 1 (B 17), rO 1 (B 18), rO 1 (B 19), rO 1 (B 20), rO 1 (B 21), rO 1 (B 22), rO 1 (B 23), rO 1 (B 24), rO 1 (B 25), rO 1 (B 26), rO 1 (B 27), rO 1 (B 28), rO 1 (B 29), rO 1 (B 30), rO 1 (B 31)]
def Y7 (B : Nat -> Nat) : List Ora := [{ ch := 2, hi := fun _ => B 0 }, { ch := 2, hi := fun _ => B 1 }, { ch := 2, hi := fun _ => B 2 }, { ch := 2, hi := fun _ => B 3 }, { ch := 2, hi := fun _ => B 4 }, { ch := 2, hi := fun _ => B 5 }, { ch := 2, hi := fun _ => B 6 }, { ch := 2, hi := fun _ => B 7 }, { ch := 2, hi := fun _ => B 8 }, { ch := 2, hi := fun _ => B 9 }, { ch := 2, hi := fun _ => B 10 }, { ch := 2, hi := fun _ => B 11 }, { ch := 2, hi := fun _ => B 12 }, { ch := 2, hi := fun _ => B 13 }, { ch := 2, hi := fun _ => B 14 }, { ch := 2, hi := fun _ => B 15 }, { ch := 2, hi := fun _ => B 16 }, { ch := 2, hi := fun _ => B 17 }, { ch := 2, hi := fun _ => B 18 }, { ch := 2, hi := fun _ => B 19 }, { ch := 2, hi := fun _ => B 20 }, { ch := 2, hi := fun _ => B 21 }, { ch := 2, hi := fun _ => B 22 }, { ch := 2, hi := fun _ => B 23 }, { ch := 2, hi := fun _ => B 24 }, { ch := 2, hi := fun _ => B 25 }, { ch := 2, hi := fun _ => B 26 }, { ch := 2, hi := fun _ => B 27 }, { ch := 2, hi := fun _ => B 28 }, { ch := 2, hi := fun _ => B 29 }, { ch := 2, hi := fun _ => B 30 }, { ch := 2, hi := fun _ => B 31 }]
def XQ (W : Nat -> Nat -> Nat) : List Ora := [{ ch := 1, hi := fun _ => W 0 1 }, { ch := 1, hi := fun _ => W 0 2 }, { ch := 1, hi := fun _ => W 0 3 }, { ch := 1, hi := fun _ => W 0 4 }, { ch := 1, hi := fun _ => W 0 5 }, { ch := 1, hi := fun _ => W 0 6 }, { ch := 1, hi := fun _ => W 0 7 }, { ch := 1, hi := fun _ => W 0 8 }, { ch := 1, hi := fun _ => W 1 1 }, { ch := 1, hi := fun _ => W 1 2 }, { ch := 1, hi := fun _ => W 1 3 }, { ch := 1, hi := fun _ => W 1 4 }, { ch := 1, hi := fun _ => W 1 5 }, { ch := 1, hi := fun _ => W 1 6 }, { ch := 1, hi := fun _ => W 1 7 }, { ch := 1, hi := fun _ => W 1 8 }, { ch := 1, hi := fun _ => W 2 1 }, { ch := 1, hi := fun _ => W 2 2 }, { ch := 1, hi := fun _ => W 2 3 }, { ch := 1, hi := fun _ => W 2 4 }, { ch := 1, hi := fun _ => W 2 5 }, { ch := 1, hi := fun _ => W 2 6 }, { ch := 1, hi := fun _ => W 2 7 }, { ch := 1, hi := fun _ => W 2 8 }, { ch := 1, hi := fun _ => W 3 1 }, { ch := 1, hi := fun _ => W 3 2 }, { ch := 1, hi := fun _ => W 3 3 }, { ch := 1, hi := fun _ => W 3 4 }, { ch := 1, hi := fun _ => W 3 5 }, { ch := 1, hi := fun _ => W 3 6 }, { ch := 1, hi := fun _ => W 3 7 }, { ch := 1, hi := fun _ => W 3 8 }]
def YN (B : Nat -> Nat) (W : Nat -> Nat -> Nat) (last : LO0) : Nat -> Ora := fun id =>
 match O7 [3, 10, 14, 25] id with
 | true => nV 32
 | false =>
  match Nat.ble 45 id, Nat.blt id 828 with
  | true, true => (match (id - 45) % 25 with
   | 0 => Hv (YJ B) ((id - 45) / 25)
   | 1 => Hv (Y7 B) ((id - 45) / 25)
   | 2 => Hv (XQ W) ((id - 45) / 25)
   | _ => { ch := 0, hi := fun _ => 0 })
  | _, _ => oL last id
theorem IE (l : LU0) : FH l < 115792089237316195423570985008687907853269984665640564039457584007913129639936 := by rw [Ao]; exact ON 32 l
set_option maxRecDepth 100000 in
def I0 {l : LU0} (h : l.length = 32) := PLift.up (show ((l.length : Nat) : Int) = ((32 : Nat) : Int) from by rw [h])
def Ts {l : LU0} {B : Nat -> Nat} {W : Nat -> Nat -> Nat} (h : l.length = 32) (hR : ∀ i : Nat, i < 32 -> (0 : Int) <= (i : Int) /\ (i : Int) < (ofL l).size /\ ((ofL l)[(i : Int).toNat]?.getD 0).toNat = B i) (hC : ∀ i, IntKind.u64 = IntKind.u64 /\ IntKind.u64.wrap ((B i : Nat) : Int) = ((B i % 18446744073709551616 : Nat) : Int)) (h0 : ∀ k, (0 ||| B (8 * k + 0) % 18446744073709551616) % 18446744073709551616 = W k 1 % 18446744073709551616) (h1 : ∀ k m, m < 8 -> (W k m / 18446744073709551616 ^ 0 * 2 ^ min 8 64 % 18446744073709551616 ||| B (8 * k + m) % 18446744073709551616) % 18446744073709551616 = W k (m + 1) % 18446744073709551616) := PLift.up (ai (h1 3 7 (by decide)) (ai (hC 31) (ai (hR 31 (by decide)) (ai (h1 3 6 (by decide)) (ai (hC 30) (ai (hR 30 (by decide)) (ai (h1 3 5 (by decide)) (ai (hC 29) (ai (hR 29 (by decide)) (ai (h1 3 4 (by decide)) (ai (hC 28) (ai (hR 28 (by decide)) (ai (h1 3 3 (by decide)) (ai (hC 27) (ai (hR 27 (by decide)) (ai (h1 3 2 (by decide)) (ai (hC 26) (ai (hR 26 (by decide)) (ai (h1 3 1 (by decide)) (ai (hC 25) (ai (hR 25 (by decide)) (ai (h0 3) (ai (hC 24) (ai (hR 24 (by decide)) (ai (h1 2 7 (by decide)) (ai (hC 23) (ai (hR 23 (by decide)) (ai (h1 2 6 (by decide)) (ai (hC 22) (ai (hR 22 (by decide)) (ai (h1 2 5 (by decide)) (ai (hC 21) (ai (hR 21 (by decide)) (ai (h1 2 4 (by decide)) (ai (hC 20) (ai (hR 20 (by decide)) (ai (h1 2 3 (by decide)) (ai (hC 19) (ai (hR 19 (by decide)) (ai (h1 2 2 (by decide)) (ai (hC 18) (ai (hR 18 (by decide)) (ai (h1 2 1 (by decide)) (ai (hC 17) (ai (hR 17 (by decide)) (ai (h0 2) (ai (hC 16) (ai (hR 16 (by decide)) (ai (h1 1 7 (by decide)) (ai (hC 15) (ai (hR 15 (by decide)) (ai (h1 1 6 (by decide)) (ai (hC 14) (ai (hR 14 (by decide)) (ai (h1 1 5 (by decide)) (ai (hC 13) (ai (hR 13 (by decide)) (ai (h1 1 4 (by decide)) (ai (hC 12) (ai (hR 12 (by decide)) (ai (h1 1 3 (by decide)) (ai (hC 11) (ai (hR 11 (by decide)) (ai (h1 1 2 (by decide)) (ai (hC 10) (ai (hR 10 (by decide)) (ai (h1 1 1 (by decide)) (ai (hC 9) (ai (hR 9 (by decide)) (ai (h0 1) (ai (hC 8) (ai (hR 8 (by decide)) (ai (h1 0 7 (by decide)) (ai (hC 7) (ai (hR 7 (by decide)) (ai (h1 0 6 (by decide)) (ai (hC 6) (ai (hR 6 (by decide)) (ai (h1 0 5 (by decide)) (ai (hC 5) (ai (hR 5 (by decide)) (ai (h1 0 4 (by decide)) (ai (hC 4) (ai (hR 4 (by decide)) (ai (h1 0 3 (by decide)) (ai (hC 3) (ai (hR 3 (by decide)) (ai (h1 0 2 (by decide)) (ai (hC 2) (ai (hR 2 (by decide)) (ai (h1 0 1 (by decide)) (ai (hC 1) (ai (hR 1 (by decide)) (ai (h0 0) (ai (hC 0) (ai (hR 0 (by decide)) (ai (I0 h).down (ai (I0 h).down (ai (I0 h).down (ai (I0 h).down tt0))))))))))))))))))))))))))))))))))))))))))))))))))))))))))))))))))))))))))))))))))))))))))))))))))))
theorem Qb {a : List XV} {r : AV} {b : Prop} (o : Nat -> Ora) (h : fnA prog (qz _) [Bg] 1 o f29 a = some (r, b)) (hv : ∃ v, r.val? = some v) (hb : b) : Gives prog 29 a r := pz (P := prog) (X := qz _) (env := [Bg]) ⟨Fx, tt0⟩ func29 1 o h hv hb
theorem Kj (l : LU0) (B : Nat -> Nat) (W : Nat -> Nat -> Nat) (h : l.length = 32) (hR : ∀ i : Nat, i < 32 -> (0 : Int) <= (i : Int) /\ (i : Int) < (ofL l).size /\ ((ofL l)[(i : Int).toNat]?.getD 0).toNat = B i) (hC : ∀ i, IntKind.u64 = IntKind.u64 /\ IntKind.u64.wrap ((B i : Nat) : Int) = ((B i % 18446744073709551616 : Nat) : Int)) (h0 : ∀ k, (0 ||| B (8 * k + 0) % 18446744073709551616) % 18446744073709551616 = W k 1 % 18446744073709551616) (h1 : ∀ k m, m < 8 -> (W k m / 18446744073709551616 ^ 0 * 2 ^ min 8 64 % 18446744073709551616 ||| B (8 * k + m) % 18446744073709551616) % 18446744073709551616 = W k (m + 1) % 18446744073709551616) (hN : (W 3 8 % 18446744073709551616 + 18446744073709551616 * (W 2 8 % 18446744073709551616 + 18446744073709551616 * (W 1 8 % 18446744073709551616 + 18446744073709551616 * (W 0 8 % 18446744073709551616 + 18446744073709551616 * (0))))) < 115792089237316195423570985008687907853269984665640564039457584007913129639936 /\ (W 3 8 % 18446744073709551616 + 18446744073709551616 * (W 2 8 % 18446744073709551616 + 18446744073709551616 * (W 1 8 % 18446744073709551616 + 18446744073709551616 * (W 0 8 % 18446744073709551616 + 18446744073709551616 * (0))))) < 52435875175126190479447740508185965837690552500527637822603658699938581184513) : Gives prog 29 [.t (.v (.string (ofL l)))] (.tp [.ag [.n 1 (W 3 8), .n 1 (W 2 8), .n 1 (W 1 8), .n 1 (W 0 8)], vi0 0]) :=
 Qb (YN B W [(844, wO 0)]) (by kernel_rfl) ⟨_, rfl⟩ (ai (hN) (Ts h hR hC h0 h1).down)
set_option maxRecDepth 100000 in
abbrev Tf : List Ch := [.c (.int .u64 0), .c (.int .u64 0), .c (.int .u64 0), .c (.int .u64 0)]
theorem KA (l : LU0) (B : Nat -> Nat) (W : Nat -> Nat -> Nat) (h : l.length = 32) (hR : ∀ i : Nat, i < 32 -> (0 : Int) <= (i : Int) /\ (i : Int) < (ofL l).size /\ ((ofL l)[(i : Int).toNat]?.getD 0).toNat = B i) (hC : ∀ i, IntKind.u64 = IntKind.u64 /\ IntKind.u64.wrap ((B i : Nat) : Int) = ((B i % 18446744073709551616 : Nat) : Int)) (h0 : ∀ k, (0 ||| B (8 * k + 0) % 18446744073709551616) % 18446744073709551616 = W k 1 % 18446744073709551616) (h1 : ∀ k m, m < 8 -> (W k m / 18446744073709551616 ^ 0 * 2 ^ min 8 64 % 18446744073709551616 ||| B (8 * k + m) % 18446744073709551616) % 18446744073709551616 = W k (m + 1) % 18446744073709551616) (hN : (W 3 8 % 18446744073709551616 + 18446744073709551616 * (W 2 8 % 18446744073709551616 + 18446744073709551616 * (W 1 8 % 18446744073709551616 + 18446744073709551616 * (W 0 8 % 18446744073709551616 + 18446744073709551616 * (0))))) < 115792089237316195423570985008687907853269984665640564039457584007913129639936 /\ 52435875175126190479447740508185965837690552500527637822603658699938581184513 <= (W 3 8 % 18446744073709551616 + 18446744073709551616 * (W 2 8 % 18446744073709551616 + 18446744073709551616 * (W 1 8 % 18446744073709551616 + 18446744073709551616 * (W 0 8 % 18446744073709551616 + 18446744073709551616 * (0)))))) : Gives prog 29 [.t (.v (.string (ofL l)))] (.tp [.ag Tf, vi0 20]) :=
 Qb (YN B W [(844, wO 1)]) (by kernel_rfl) ⟨_, rfl⟩ (ai (hN) (Ts h hR hC h0 h1).down)
theorem OX (l : LU0) (h : l.length = 32) (hp : deN 32 l < 52435875175126190479447740508185965837690552500527637822603658699938581184513) : Gives prog 29 [.t (.v (.string (ofL l)))] (.tp [.ag [.e (ofR (deN 32 l))], vi0 0]) :=
 Gives.same (Kj l (byt l) (pre l) h (fun i hi => xb l 32 i h hi) (wW l) (Ae l) (fun k m hm => by rw [Nat.pow_zero, Nat.div_one]; exact Ec l k m hm) (show FH l < 115792089237316195423570985008687907853269984665640564039457584007913129639936 /\ FH l < 52435875175126190479447740508185965837690552500527637822603658699938581184513 from ⟨IE l, by rw [Ao]; exact hp⟩)) (Rb l hp).symm
theorem O6 (l : LU0) (h : l.length = 32) (hp : 52435875175126190479447740508185965837690552500527637822603658699938581184513 <= deN 32 l) : Gives prog 29 [.t (.v (.string (ofL l)))] (.tp [.ag [.c (.int .u64 0), .c (.int .u64 0), .c (.int .u64 0), .c (.int .u64 0)], vi0 20]) :=
 KA l (byt l) (pre l) h (fun i hi => xb l 32 i h hi) (wW l) (Ae l) (fun k m hm => by rw [Nat.pow_zero, Nat.div_one]; exact Ec l k m hm) (show FH l < 115792089237316195423570985008687907853269984665640564039457584007913129639936 /\ 52435875175126190479447740508185965837690552500527637822603658699938581184513 <= FH l from ⟨IE l, by rw [Ao]; exact hp⟩)
theorem J2 (l : LU0) (h : l.length ≠ 32) : Gives prog 29 [.t (.v (.string (ofL l)))] (.tp [.ag Tf, vi0 3]) :=
 Qb (oL [(4, wT)]) (by kernel_rfl) ⟨_, rfl⟩ (ai (show ((((l.length : Nat) : Int) != 32) = true) from by simp; omega) tt0)
end Go.Proofs.YtokjhbmmdmeafaaGreat
set_option linter.unusedSimpArgs false
set_option linter.unusedVariables false
namespace Go.Proofs.YtokjhbmmdmeafaaGreat
open Go.Ev Go.RowKit
open Tryz
def Ax (ns : List Nat) : Prop := ∀ x, x ∈ ns -> x < Rr
instance (ns : List Nat) : Decidable (Ax ns) := inferInstanceAs (Decidable (∀ x, x ∈ ns -> x < Rr))
end Go.Proofs.YtokjhbmmdmeafaaGreat
set_option linter.unusedSimpArgs false
set_option linter.unusedVariables false
namespace Go.Proofs.YtokjhbmmdmeafaaGreat
open Go.Ev Go.RowKit
open Tryz
def b4 (k : IntKind) (n : Int) : LU0 := [UInt8.ofNat (IntKind.u8.wrap (n.fdiv (2 ^ min 24 k.bits))).toNat, UInt8.ofNat (IntKind.u8.wrap (n.fdiv (2 ^ min 16 k.bits))).toNat, UInt8.ofNat (IntKind.u8.wrap (n.fdiv (2 ^ min 8 k.bits))).toNat, UInt8.ofNat (IntKind.u8.wrap n).toNat]
def Tg : Entry := pS 45 (XPar.int .u32) (fun n => [(none, .v (.string (ofL (b4 .u32 n))))])
theorem OO : Tg.OK prog := pE (fun args w => Go.Proofs.enters_of (P := prog) func45 (by kernel_rfl) rfl args w) (fun n => only (pq (P := prog) (env := []) trivial func45 0 o0 (by kernel_rfl) tt0))
end Go.Proofs.YtokjhbmmdmeafaaGreat
set_option linter.unusedSimpArgs false
set_option linter.unusedVariables false
namespace Go.Proofs.YtokjhbmmdmeafaaGreat
open Go.Ev Go.RowKit
open Tryz
structure GT where
 q0 : Nat
 q1 : Nat
 q2 : Nat
 q3 : Nat
 q4 : Nat
 w0 : Int
 w1 : Int
 w2 : Int
def gP (g : GT) : List Ch := [.n 4 g.q0, .n 4 g.q1, .n 4 g.q2, .n 4 g.q3, .n 4 g.q4, ci0 g.w0, ci0 g.w1, ci0 g.w2]
def gC (g : GT) : List Value := flat (gP g)
theorem Cy (g : GT) : (gC g).length = 23 := by unfold gC gP; simp [flat, Ch.cells, sF]
def gsC (gs : List GT) : List Value := gs.flatMap gC
def bw (vars v : Int) : Prop := v < -1 ∨ v >= vars
instance (vars v : Int) : Decidable (bw vars v) := inferInstanceAs (Decidable (_ ∨ _))
def okW (vars : Int) (g : GT) : Prop := ¬ bw vars g.w0 /\ ¬ bw vars g.w1 /\ ¬ bw vars g.w2
instance (vars : Int) (g : GT) : Decidable (okW vars g) := inferInstanceAs (Decidable (_ /\ _))
def uv (gs : List GT) (pub vars : Int) : Prop := gs.length <= 4096 /\ 0 <= pub /\ pub <= gs.length /\ 0 <= vars /\ ∀ g, g ∈ gs -> okW vars g
theorem vI (gs : List GT) (i : Nat) (g : GT) (h : gs[i]? = some g) : rH (gP g) = 23 /\ ((flat [.l (gsC gs)]).drop (i * 23)).take 23 = flat (gP g) := by
 refine ⟨rfl, ?_⟩
 rw [GM]
 exact IO gC Cy gs i g h
theorem EL (vars : Int) : ∀ gs : List GT, (∀ g, g ∈ gs -> okW vars g) ∨ ∃ (j : Nat) (g : GT), gs[j]? = some g /\ ¬ okW vars g /\ ∀ (i : Nat) (y : GT), i < j -> gs[i]? = some y -> okW vars y
 | [] => .inl (fun x hx => by cases hx)
 | n :: ns => by
  by_cases h : okW vars n
  ·rcases EL vars ns with h1 | ⟨j, x, h1, h2, h3⟩
   ·exact .inl (fun x hx => by rcases List.mem_cons.1 hx with rfl | hx; exact h; exact h1 x hx)
   ·refine .inr ⟨j + 1, x, h1, h2, fun i y hi hy => ?_⟩
    match i, hy with
    | 0, hy => simp only [List.getElem?_cons_zero, oi0] at hy; subst hy; exact h
    | i + 1, hy => exact h3 i y (by omega) (by simpa using hy)
  ·exact .inr ⟨0, n, rfl, h, fun i y hi => by omega⟩
theorem glt {gs : List GT} {i : Nat} {x : GT} (h : gs[i]? = some x) : i < gs.length := (List.getElem?_eq_some_iff.1 h).1
theorem abR {gs : List GT} {i : Nat} {x : GT} (h : gs[i]? = some x) : x ∈ gs := List.mem_of_getElem? h
theorem gof {gs : List GT} {i : Nat} (h : i < gs.length) : ∃ x, gs[i]? = some x := ⟨_, List.getElem?_eq_getElem h⟩
theorem nlt {vars v : Int} (h : ¬ bw vars v) : decide (v < -1) = false := decide_eq_false (fun e => h (.inl e))
theorem nge {vars v : Int} (h : ¬ bw vars v) : decide (v >= vars) = false := decide_eq_false (fun e => h (.inr e))
def ccI (gs : List GT) (pub vars z : Int) : LState := { n := 19, sl := [(0, .sz 0 gs.length), (1, .clo 77 [] [.p 4 0]), (7, vi0 ((gs.length : Nat) : Int)), (8, vi0 z)], hp := [(0, .rz [.l (gsC gs)]), (4, .own [.sz 0 gs.length, ci0 pub, ci0 vars] 49)] }
def ccE (gs : List GT) (pub vars : Int) : LState := { n := 19, sl := [], hp := [(0, .rz [.l (gsC gs)]), (4, .own [.sz 0 gs.length, ci0 pub, ci0 vars] 49)] }
def ccF (gs : List GT) (pub vars z : Int) : LState := { n := 19, sl := [(4, vi0 z)], hp := [(0, .rz [.l (gsC gs)]), (4, .own [.sz 0 gs.length, ci0 pub, ci0 vars] 49)] }
def M7 (g : GT) : Nat × Ora := (47, { ch := 0, hi := fun _ => 0, ru := 8, cs := fun _ => gP g })
theorem Zl (gs : List GT) (pub vars : Int) (i : Nat) (g : GT) (hg : gs[i]? = some g) (hb : g.w0 < -1) : Sound prog 36 false (pI f106 0) (ccI gs pub vars (i : Int)).aa .ret (ccF gs pub vars (i : Int)).aa := by
 have hi := glt hg
 exact pG (P := prog) (X := pC _) (env := []) trivial (n := 4) (os := oL [(40, wT), (46, rO 14 i), (M7 g), (74, wT)]) (fb := 36) (rd := false) (c := (pI f106 0)) (k := 40) (I := ccI gs pub vars (i : Int)) (sk := [4]) (hk := [0, 4]) (lk := []) (ex := .ret)
  (L := ccF gs pub vars (i : Int)) (by kernel_rfl) (ai (show decide (g.w0 < -1) = true from decide_eq_true hb) (ai (vI gs i g hg) (ai (show (i : Int) = ((i : Nat) : Int) /\ i < gs.length from ⟨rfl, hi⟩) (ai (show decide ((i : Int) < ((gs.length : Nat) : Int)) = true from decide_eq_true (by omega)) tt0))))
theorem aap (gs : List GT) (pub vars : Int) (i : Nat) (g : GT) (hg : gs[i]? = some g) (ha : ¬ g.w0 < -1) (hb : g.w0 >= vars) : Sound prog 36 false (pI f106 0) (ccI gs pub vars (i : Int)).aa .ret (ccF gs pub vars (i : Int)).aa := by
 have hi := glt hg
 exact pG (P := prog) (X := pC _) (env := []) trivial (n := 4) (os := oL [(40, wT), (46, rO 14 i), (M7 g), (74, wF), (79, wT)]) (fb := 36) (rd := false) (c := (pI f106 0)) (k := 40) (I := ccI gs pub vars (i : Int)) (sk := [4]) (hk := [0, 4]) (lk := []) (ex := .ret)
  (L := ccF gs pub vars (i : Int)) (by kernel_rfl) (ai (show decide (g.w0 >= vars) = true from decide_eq_true hb) (ai (show decide (g.w0 < -1) = false from decide_eq_false ha) (ai (vI gs i g hg) (ai (show (i : Int) = ((i : Nat) : Int) /\ i < gs.length from ⟨rfl, hi⟩) (ai (show decide ((i : Int) < ((gs.length : Nat) : Int)) = true from decide_eq_true (by omega)) tt0)))))
def I4 (i : Nat) (g : GT) : LO0 := [(40, wT), (46, rO 14 i), (M7 g), (74, wF), (79, wF)]
theorem XM (gs : List GT) (pub vars : Int) (i : Nat) (g : GT) (hg : gs[i]? = some g) (h0 : ¬ bw vars g.w0) (hb : g.w1 < -1) : Sound prog 36 false (pI f106 0) (ccI gs pub vars (i : Int)).aa .ret (ccF gs pub vars (i : Int)).aa := by
 have hi := glt hg
 exact pG (P := prog) (X := pC _) (env := []) trivial (n := 4) (os := oL ((I4 i g) ++ [(95, wT)])) (fb := 36) (rd := false) (c := (pI f106 0)) (k := 40) (I := ccI gs pub vars (i : Int)) (sk := [4]) (hk := [0, 4]) (lk := []) (ex := .ret)
  (L := ccF gs pub vars (i : Int)) (by kernel_rfl) (ai (show decide (g.w1 < -1) = true from decide_eq_true hb) (ai (show decide (g.w0 >= vars) = false from nge h0) (ai (show decide (g.w0 < -1) = false from nlt h0) (ai (vI gs i g hg) (ai (show (i : Int) = ((i : Nat) : Int) /\ i < gs.length from ⟨rfl, hi⟩) (ai (show decide ((i : Int) < ((gs.length : Nat) : Int)) = true from decide_eq_true (by omega)) tt0))))))
theorem aaj (gs : List GT) (pub vars : Int) (i : Nat) (g : GT) (hg : gs[i]? = some g) (h0 : ¬ bw vars g.w0) (ha : ¬ g.w1 < -1) (hb : g.w1 >= vars) : Sound prog 36 false (pI f106 0) (ccI gs pub vars (i : Int)).aa .ret (ccF gs pub vars (i : Int)).aa := by
 have hi := glt hg
 exact pG (P := prog) (X := pC _) (env := []) trivial (n := 4) (os := oL ((I4 i g) ++ [(95, wF), (100, wT)])) (fb := 36) (rd := false) (c := (pI f106 0)) (k := 40) (I := ccI gs pub vars (i : Int)) (sk := [4]) (hk := [0, 4]) (lk := []) (ex := .ret)
  (L := ccF gs pub vars (i : Int)) (by kernel_rfl) (ai (show decide (g.w1 >= vars) = true from decide_eq_true hb) (ai (show decide (g.w1 < -1) = false from decide_eq_false ha) (ai (show decide (g.w0 >= vars) = false from nge h0) (ai (show decide (g.w0 < -1) = false from nlt h0) (ai (vI gs i g hg) (ai (show (i : Int) = ((i : Nat) : Int) /\ i < gs.length from ⟨rfl, hi⟩) (ai (show decide ((i : Int) < ((gs.length : Nat) : Int)) = true from decide_eq_true (by omega)) tt0)))))))
theorem YR (gs : List GT) (pub vars : Int) (i : Nat) (g : GT) (hg : gs[i]? = some g) (h0 : ¬ bw vars g.w0) (h1 : ¬ bw vars g.w1) (hb : g.w2 < -1) : Sound prog 36 false (pI f106 0) (ccI gs pub vars (i : Int)).aa .ret (ccF gs pub vars (i : Int)).aa := by
 have hi := glt hg
 exact pG (P := prog) (X := pC _) (env := []) trivial (n := 4) (os := oL ((I4 i g) ++ [(95, wF), (100, wF), (116, wT)])) (fb := 36) (rd := false) (c := (pI f106 0)) (k := 40) (I := ccI gs pub vars (i : Int)) (sk := [4]) (hk := [0, 4]) (lk := []) (ex := .ret)
  (L := ccF gs pub vars (i : Int)) (by kernel_rfl) (ai (show decide (g.w2 < -1) = true from decide_eq_true hb) (ai (show decide (g.w1 >= vars) = false from nge h1) (ai (show decide (g.w1 < -1) = false from nlt h1) (ai (show decide (g.w0 >= vars) = false from nge h0) (ai (show decide (g.w0 < -1) = false from nlt h0) (ai (vI gs i g hg) (ai (show (i : Int) = ((i : Nat) : Int) /\ i < gs.length from ⟨rfl, hi⟩) (ai (show decide ((i : Int) < ((gs.length : Nat) : Int)) = true from decide_eq_true (by omega)) tt0))))))))
theorem aaQ (gs : List GT) (pub vars : Int) (i : Nat) (g : GT) (hg : gs[i]? = some g) (h0 : ¬ bw vars g.w0) (h1 : ¬ bw vars g.w1) (ha : ¬ g.w2 < -1) (hb : g.w2 >= vars) : Sound prog 36 false (pI f106 0) (ccI gs pub vars (i : Int)).aa .ret (ccF gs pub vars (i : Int)).aa := by
 have hi := glt hg
 exact pG (P := prog) (X := pC _) (env := []) trivial (n := 4) (os := oL ((I4 i g) ++ [(95, wF), (100, wF), (116, wF), (121, wT)])) (fb := 36) (rd := false) (c := (pI f106 0)) (k := 40) (I := ccI gs pub vars (i : Int)) (sk := [4]) (hk := [0, 4]) (lk := []) (ex := .ret)
  (L := ccF gs pub vars (i : Int)) (by kernel_rfl) (ai (show decide (g.w2 >= vars) = true from decide_eq_true hb) (ai (show decide (g.w2 < -1) = false from decide_eq_false ha) (ai (show decide (g.w1 >= vars) = false from nge h1) (ai (show decide (g.w1 < -1) = false from nlt h1) (ai (show decide (g.w0 >= vars) = false from nge h0) (ai (show decide (g.w0 < -1) = false from nlt h0) (ai (vI gs i g hg) (ai (show (i : Int) = ((i : Nat) : Int) /\ i < gs.length from ⟨rfl, hi⟩) (ai (show decide ((i : Int) < ((gs.length : Nat) : Int)) = true from decide_eq_true (by omega)) tt0)))))))))
theorem TA (gs : List GT) (pub vars : Int) (hm : gs.length <= 9223372036854775807) (i : Nat) (g : GT) (hg : gs[i]? = some g) (h0 : ¬ bw vars g.w0) (h1 : ¬ bw vars g.w1) (h2 : ¬ bw vars g.w2) : Sound prog 36 false (pI f106 0) (ccI gs pub vars (i : Int)).aa .normal (ccI gs pub vars ((i + 1 : Nat) : Int)).aa := by
 have hi := glt hg
 have hs := pG (P := prog) (X := pC _) (env := []) trivial (n := 4) (os := oL [(40, wT), (46, rO 14 i), (47, { ch := 0, hi := fun _ => 0, ru := 8, cs := fun _ => gP g }), (74, wF), (79, wF), (95, wF), (100, wF), (116, wF), (121, wF)]) (fb := 36) (rd := false) (c := (pI f106 0)) (k := 40) (I := ccI gs pub vars (i : Int)) (sk := [0, 1, 7, 8]) (hk := [0, 4]) (lk := []) (ex := .normal)
  (L := ccI gs pub vars (IntKind.i64.wrap ((i : Int) + 1))) (by kernel_rfl) (ai (show decide (g.w2 >= vars) = false from nge h2) (ai (show decide (g.w2 < -1) = false from nlt h2) (ai (show decide (g.w1 >= vars) = false from nge h1) (ai (show decide (g.w1 < -1) = false from nlt h1) (ai (show decide (g.w0 >= vars) = false from nge h0) (ai (show decide (g.w0 < -1) = false from nlt h0) (ai (vI gs i g hg) (ai (show (i : Int) = ((i : Nat) : Int) /\ i < gs.length from ⟨rfl, hi⟩) (ai (show decide ((i : Int) < ((gs.length : Nat) : Int)) = true from decide_eq_true (by omega)) tt0)))))))))
 rw [show IntKind.i64.wrap ((i : Int) + 1) = ((i + 1 : Nat) : Int) by rw [pN]; omega] at hs
 exact hs
theorem U9 (gs : List GT) (pub vars : Int) : Sound prog 36 false (pI f106 0) (ccI gs pub vars ((gs.length : Nat) : Int)).aa (.exit 0) (ccE gs pub vars).aa :=
 pG (P := prog) (X := pC _) (env := []) trivial (n := 0) (os := oL [(40, wF)]) (fb := 36) (rd := false) (c := (pI f106 0)) (k := 40) (I := ccI gs pub vars ((gs.length : Nat) : Int)) (sk := []) (hk := [0, 4]) (lk := []) (ex := .exit 0)
  (L := ccE gs pub vars) (by kernel_rfl) (ai (show decide (((gs.length : Nat) : Int) < ((gs.length : Nat) : Int)) = false from decide_eq_false (by omega)) tt0)
theorem Uv (gs : List GT) (pub vars : Int) (i : Nat) (g : GT) (hg : gs[i]? = some g) (hb : ¬ okW vars g) : Sound prog 36 false (pI f106 0) (ccI gs pub vars (i : Int)).aa .ret (ccF gs pub vars (i : Int)).aa := by
 by_cases h0 : bw vars g.w0
 ·by_cases ha : g.w0 < -1
  ·exact Zl gs pub vars i g hg ha
  ·exact aap gs pub vars i g hg ha (h0.resolve_left ha)
 by_cases h1 : bw vars g.w1
 ·by_cases ha : g.w1 < -1
  ·exact XM gs pub vars i g hg h0 ha
  ·exact aaj gs pub vars i g hg h0 ha (h1.resolve_left ha)
 by_cases h2 : bw vars g.w2
 ·by_cases ha : g.w2 < -1
  ·exact YR gs pub vars i g hg h0 h1 ha
  ·exact aaQ gs pub vars i g hg h0 h1 ha (h2.resolve_left ha)
 exact absurd ⟨h0, h1, h2⟩ hb
theorem Vq (gs : List GT) (pub vars : Int) (hm : gs.length <= 9223372036854775807) (hc : ∀ g, g ∈ gs -> okW vars g) : Sound prog 36 false (.loop (pI f106 0)) (ccI gs pub vars 0).aa (.exit 0) (ccE gs pub vars).aa := by
 refine qr (m := fun y : { i : Nat // i <= gs.length } => gs.length - y.val) (fun y => ccI gs pub vars (y.val : Int)) (by simp) (fun y => ?_) ⟨0, by omega⟩
 obtain ⟨i, hi⟩ := y
 by_cases e : i < gs.length
 ·obtain ⟨g, hg⟩ := gof e
  obtain ⟨h0, h1, h2⟩ := hc g (abR hg)
  exact .inl ⟨⟨i + 1, e⟩, by show gs.length - (i + 1) < gs.length - i; omega, TA gs pub vars hm i g hg h0 h1 h2⟩
 ·have e : i = gs.length := by omega
  subst e
  exact .inr (U9 gs pub vars)
theorem XJ (gs : List GT) (pub vars : Int) (hm : gs.length <= 9223372036854775807) (j : Nat) (x : GT) (hj : gs[j]? = some x) (hx : ¬ okW vars x) (hp : ∀ (i : Nat) (y : GT), i < j -> gs[i]? = some y -> okW vars y) : Sound prog 36 false (.loop (pI f106 0)) (ccI gs pub vars 0).aa .ret (ccF gs pub vars (j : Int)).aa := by
 refine qr (m := fun y : { i : Nat // i <= j } => j - y.val) (fun y => ccI gs pub vars (y.val : Int)) (by simp) (fun y => ?_) ⟨0, by omega⟩
 obtain ⟨i, hi⟩ := y
 by_cases e : i < j
 ·obtain ⟨g, hg⟩ := gof (show i < gs.length by have := glt hj; omega)
  obtain ⟨h0, h1, h2⟩ := hp i g e hg
  exact .inl ⟨⟨i + 1, by omega⟩, by show j - (i + 1) < j - i; omega, TA gs pub vars hm i g hg h0 h1 h2⟩
 ·have e : i = j := by omega
  subst e
  exact .inr (Uv gs pub vars i x hj hx)
theorem B0 {a : List XV} {r : AV} {b : Prop} (o : LO0) (hb : b) (h : fnA prog (pC _) [] 5 (oL o) f36 a = some (r, b) := by kernel_rfl) (hv : ∃ v, r.val? = some v := by exact ⟨_, rfl⟩) : Gives prog 36 a r := pz (P := prog) (X := pC _) (env := []) trivial func36 5 (oL o) h hv hb
theorem acd (gs : List GT) (pub vars : Int) (h1 : ¬ gs.length <= 4096) : Gives prog 36 [.ags [.z [.l (gsC gs)] gs.length, .c (ci0 pub), .c (ci0 vars)]] (.v (.bool false)) :=
 B0 [(9, wT)] (ai (show decide (((gs.length : Nat) : Int) > 4096) = true from decide_eq_true (by omega)) tt0)
def OI {gs : List GT} (h1 : gs.length <= 4096) := PLift.up (ai (show decide (((gs.length : Nat) : Int) > 4096) = false from decide_eq_false (by omega)) tt0)
theorem ab3 (gs : List GT) (pub vars : Int) (h1 : gs.length <= 4096) (h2 : ¬ 0 <= pub) : Gives prog 36 [.ags [.z [.l (gsC gs)] gs.length, .c (ci0 pub), .c (ci0 vars)]] (.v (.bool false)) :=
 B0 [(9, wF), (13, wT)] (ai (show decide (pub < 0) = true from decide_eq_true (by omega))
   (OI h1).down)
theorem acu (gs : List GT) (pub vars : Int) (h1 : gs.length <= 4096) (h2 : 0 <= pub) (h3 : ¬ pub <= gs.length) : Gives prog 36 [.ags [.z [.l (gsC gs)] gs.length, .c (ci0 pub), .c (ci0 vars)]] (.v (.bool false)) :=
 B0 [(9, wF), (13, wF), (21, wT)] (ai (show decide (pub > ((gs.length : Nat) : Int)) = true from decide_eq_true (by omega)) (ai (show decide (pub < 0) = false from decide_eq_false (by omega))
   (OI h1).down))
def MV {gs : List GT} {pub : Int} (h1 : gs.length <= 4096) (h2 : 0 <= pub) (h3 : pub <= gs.length) := PLift.up (ai (show decide (pub > ((gs.length : Nat) : Int)) = false from decide_eq_false (by omega)) (ai (show decide (pub < 0) = false from decide_eq_false (by omega))
   (OI h1).down))
theorem abL (gs : List GT) (pub vars : Int) (h1 : gs.length <= 4096) (h2 : 0 <= pub) (h3 : pub <= gs.length) (h4 : ¬ 0 <= vars) : Gives prog 36 [.ags [.z [.l (gsC gs)] gs.length, .c (ci0 pub), .c (ci0 vars)]] (.v (.bool false)) :=
 B0 [(9, wF), (13, wF), (21, wF), (26, wT)] (ai (show decide (vars < 0) = true from decide_eq_true (by omega))
   (MV h1 h2 h3).down)
theorem ach (gs : List GT) (pub vars : Int) (hm : gs.length <= 9223372036854775807) (hc : ∀ g, g ∈ gs -> okW vars g) (h1 : gs.length <= 4096) (h2 : 0 <= pub) (h3 : pub <= gs.length) (h4 : 0 <= vars) : Gives prog 36 [.ags [.z [.l (gsC gs)] gs.length, .c (ci0 pub), .c (ci0 vars)]] (.v (.bool true)) :=
 B0 [(9, wF), (13, wF), (21, wF), (26, wF), (40, lpO { I := ccI gs pub vars 0, ex := .exit 0, E := ccE gs pub vars, fr := 41 })] (ai (show some (ccI gs pub vars 0) = some (ccI gs pub vars 0) from rfl) (ai (Vq gs pub vars hm hc) (ai (show decide (vars < 0) = false from decide_eq_false (by omega))
   (MV h1 h2 h3).down)))
theorem acy (gs : List GT) (pub vars : Int) (hm : gs.length <= 9223372036854775807) (h1 : gs.length <= 4096) (h2 : 0 <= pub) (h3 : pub <= gs.length) (h4 : 0 <= vars) (j : Nat) (x : GT) (hj : gs[j]? = some x) (hx : ¬ okW vars x) (hp : ∀ (i : Nat) (y : GT), i < j -> gs[i]? = some y -> okW vars y) : Gives prog 36 [.ags [.z [.l (gsC gs)] gs.length, .c (ci0 pub), .c (ci0 vars)]] (.v (.bool false)) :=
 B0 [(9, wF), (13, wF), (21, wF), (26, wF), (40, lpO { I := ccI gs pub vars 0, ex := .ret, E := ccF gs pub vars (j : Int), fr := 41 }), (41, wT)] (ai (show decide ((j : Int) >= 0) = true from decide_eq_true (by omega)) (ai (show some (ccI gs pub vars 0) = some (ccI gs pub vars 0) from rfl) (ai (XJ gs pub vars hm j x hj hx hp) (ai (show decide (vars < 0) = false from decide_eq_false (by omega))
   (MV h1 h2 h3).down))))
theorem VY (gs : List GT) (pub vars : Int) (h : uv gs pub vars) : Gives prog 36 [.ags [.z [.l (gsC gs)] gs.length, .c (ci0 pub), .c (ci0 vars)]] (.v (.bool true)) :=
 ach gs pub vars (by have := h.1; omega) h.2.2.2.2 h.1 h.2.1 h.2.2.1 h.2.2.2.1
theorem aaB (gs : List GT) (pub vars : Int) (h : ¬ uv gs pub vars) : Gives prog 36 [.ags [.z [.l (gsC gs)] gs.length, .c (ci0 pub), .c (ci0 vars)]] (.v (.bool false)) := by
 by_cases h1 : gs.length <= 4096
 ·by_cases h2 : 0 <= pub
  ·by_cases h3 : pub <= gs.length
   ·by_cases h4 : 0 <= vars
    ·rcases EL vars gs with hc | ⟨j, x, e1, e2, e3⟩
     ·exact absurd ⟨h1, h2, h3, h4, hc⟩ h
     ·exact acy gs pub vars (by omega) h1 h2 h3 h4 j x e1 e2 e3
    ·exact abL gs pub vars h1 h2 h3 h4
   ·exact acu gs pub vars h1 h2 h3
  ·exact ab3 gs pub vars h1 h2
 ·exact acd gs pub vars h1
end Go.Proofs.YtokjhbmmdmeafaaGreat
set_option linter.unusedSimpArgs false
set_option linter.unusedVariables false
namespace Go.Proofs.YtokjhbmmdmeafaaGreat
open Go.Ev Go.RowKit
open Tryz
def gN (g : GT) : List Nat := [g.q0, g.q1, g.q2, g.q3, g.q4]
def VV (g : GT) : Prop := Ax (gN g)
instance (g : GT) : Decidable (VV g) := inferInstanceAs (Decidable (Ax _))
theorem V1 (l : LU0) : flat [.y l] = l.map rI := by simp [flat, Ch.cells]
end Go.Proofs.YtokjhbmmdmeafaaGreat
