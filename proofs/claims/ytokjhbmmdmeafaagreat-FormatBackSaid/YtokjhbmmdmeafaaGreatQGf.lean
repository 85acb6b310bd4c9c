/- Pruned: Gf. -/
import Derived.Test.YtokjhbmmdmeafaaGreatQHb
import Derived.Test.YtokjhbmmdmeafaaGreatQHe
import Derived.Test.YtokjhbmmdmeafaaGreatQGb
import Derived.Test.YtokjhbmmdmeafaaGreatQGa
set_option linter.unusedSimpArgs false
set_option linter.unusedVariables false
namespace Go.Proofs.YtokjhbmmdmeafaaGreat
open Go.Ev Go.RowKit
open Tryz
abbrev DU (v : Value) : Prop := true = true /\ true = true /\ [v] = [v]
abbrev Lq (n : Nat) : Prop := true = true /\ n = n
abbrev Oz (a : Nat) : Prop := a < 115792089237316195423570985008687907853269984665640564039457584007913129639936
theorem Nv (a : Nat) (ha : Oz a) (h : a < 52435875175126190479447740508185965837690552500527637822603658699938581184513) : Gives prog 68 [.t (.ag [.n 4 a])] (.v (.bool true)) :=
 pX (P := prog) (env := [LH, eRS]) ⟨Cp, zq, tt0⟩ func68 0 (oN [] [(7, 0)]) (by kernel_rfl) (ai (show a < 115792089237316195423570985008687907853269984665640564039457584007913129639936 /\ 52435875175126190479447740508185965837690552500527637822603658699938581184513 < 115792089237316195423570985008687907853269984665640564039457584007913129639936 /\ a < 52435875175126190479447740508185965837690552500527637822603658699938581184513 from ⟨ha, by decide, h⟩) tt0)
theorem Md (a : Nat) (ha : Oz a) (h : a = 52435875175126190479447740508185965837690552500527637822603658699938581184513) : Gives prog 68 [.t (.ag [.n 4 a])] (.v (.bool false)) :=
 pX (P := prog) (env := [LH, eRS]) ⟨Cp, zq, tt0⟩ func68 0 (oN [] [(7, 1)]) (by kernel_rfl) (ai (show a < 115792089237316195423570985008687907853269984665640564039457584007913129639936 /\ 52435875175126190479447740508185965837690552500527637822603658699938581184513 < 115792089237316195423570985008687907853269984665640564039457584007913129639936 /\ a = 52435875175126190479447740508185965837690552500527637822603658699938581184513 from ⟨ha, by decide, h⟩) tt0)
theorem M9 (a : Nat) (ha : Oz a) (h : 52435875175126190479447740508185965837690552500527637822603658699938581184513 < a) : Gives prog 68 [.t (.ag [.n 4 a])] (.v (.bool false)) :=
 pX (P := prog) (env := [LH, eRS]) ⟨Cp, zq, tt0⟩ func68 0 (oN [] [(7, 2)]) (by kernel_rfl) (ai (show a < 115792089237316195423570985008687907853269984665640564039457584007913129639936 /\ 52435875175126190479447740508185965837690552500527637822603658699938581184513 < 115792089237316195423570985008687907853269984665640564039457584007913129639936 /\ 52435875175126190479447740508185965837690552500527637822603658699938581184513 < a from ⟨ha, by decide, h⟩) tt0)
theorem ML (a : Nat) (ha : a < 115792089237316195423570985008687907853269984665640564039457584007913129639936) (h : 52435875175126190479447740508185965837690552500527637822603658699938581184513 <= a) : Gives prog 68 [.t (.ag [.n 4 a])] (.v (.bool false)) := by
 rcases Nat.lt_or_eq_of_le h with h | h
 ·exact M9 a ha h
 ·exact Md a ha h.symm
def x8 : Entry := ql 68 yX.x (fun a => [(some (a < 115792089237316195423570985008687907853269984665640564039457584007913129639936 /\ a < 52435875175126190479447740508185965837690552500527637822603658699938581184513), .v (.bool true)), (some (a < 115792089237316195423570985008687907853269984665640564039457584007913129639936 /\ 52435875175126190479447740508185965837690552500527637822603658699938581184513 <= a), .v (.bool false))])
theorem x9 : x8.OK prog := qb (fun args w => Go.Proofs.enters_of (P := prog) func68 (by kernel_rfl) rfl args w) (fun a c r hm hc => by
 simp only [List.mem_cons, pi0, List.not_mem_nil, or_false] at hm
 rcases hm with ⟨rfl, rfl⟩ | ⟨rfl, rfl⟩
 ·exact Nv a hc.1 hc.2
 ·exact ML a hc.1 hc.2)
end Go.Proofs.YtokjhbmmdmeafaaGreat
set_option linter.unusedSimpArgs false
set_option linter.unusedVariables false
namespace Go.Proofs.YtokjhbmmdmeafaaGreat
open Go.Ev Go.RowKit
open Tryz
theorem ZG (x : Nat) : Gives prog 84 [.rd [.n 4 x] 4 4] (.v (.string (ofL (beL 32 x)))) := by
 have h : beL 32 x = (List.range 32).map (fun k => UInt8.ofNat (IntKind.u8.wrap ((x / 18446744073709551616 ^ (4 - 1 - k / 8) % 18446744073709551616 / 2 ^ min (56 - 8 * (k % 8)) 64 % 18446744073709551616 : Nat) : Int)).toNat) := by
  rw [yK]
  refine List.map_congr_left fun k hk => ?_
  rw [List.mem_range] at hk
  rw [HH x _ _ (by omega), ← Bk]
  congr 4
  omega
 rw [h]
 exact p6 (P := prog) (X := qO _) (env := []) trivial func84 4 o0 (by kernel_rfl) ⟨_, rfl⟩ trivial
def JQ : Entry := ql 84 (XPar.rd 4 yX (fun _ => rfl)) (fun a => [(none, .v (.string (ofL (beL 32 a))))])
theorem EM : JQ.OK prog := qb (fun args w => Go.Proofs.enters_of (P := prog) func84 (by kernel_rfl) rfl args w) (fun a => only (ZG a))
def uE : Entry := ql 42 Wb (fun a => [(some (DH a), .v (.string (ofL (beL 32 (Ys a).val))))])
theorem ue : uE.OK prog := qb (fun args w => Go.Proofs.enters_of (P := prog) func42 (by kernel_rfl) rfl args w) (fun a => match a with
 | .inl a => sd (fun h => pX (P := prog) (env := [C4, JQ]) ⟨Bz, EM, tt0⟩ func42 0 o0 (by kernel_rfl) (ai h tt0))
 | .inr a => sd (fun h => pX (P := prog) (env := [C4, JQ]) ⟨Bz, EM, tt0⟩ func42 0 o0 (by kernel_rfl) (ai h tt0)))
def IC (l : LU0) : Nat := pre l 3 8 % 18446744073709551616 + 18446744073709551616 * (pre l 2 8 % 18446744073709551616 + 18446744073709551616 * (pre l 1 8 % 18446744073709551616 + 18446744073709551616 * (pre l 0 8 % 18446744073709551616 + 18446744073709551616 * (0))))
theorem B4 (l : LU0) : IC l = deN 32 l := by
 have e : deN 32 l = pre l 0 (8 * (0 + 4)) := rfl
 have l0 : pre l 0 8 < 18446744073709551616 := ud l 0 8
 have l1 : pre l 1 8 < 18446744073709551616 := ud l 1 8
 have l2 : pre l 2 8 < 18446744073709551616 := ud l 2 8
 have l3 : pre l 3 8 < 18446744073709551616 := ud l 3 8
 rw [e, show 8 * (0 + 4) = 8 * (3 + 1) from rfl, sI, show 8 * 3 = 8 * (2 + 1) from rfl, sI, show 8 * 2 = 8 * (1 + 1) from rfl, sI, show 8 * 1 = 8 * (0 + 1) from rfl, sI]
 unfold IC
 rw [Nat.mod_eq_of_lt l0]
 rw [Nat.mod_eq_of_lt l1]
 rw [Nat.mod_eq_of_lt l2]
 rw [Nat.mod_eq_of_lt l3]
 simp only [pre, Nat.mul_zero, Nat.zero_mul, Nat.zero_add]
 omega
theorem Um (l : LU0) (h : deN 32 l < 52435875175126190479447740508185965837690552500527637822603658699938581184513) : (AV.tp [.ag [.n 1 (pre l 3 8), .n 1 (pre l 2 8), .n 1 (pre l 1 8), .n 1 (pre l 0 8)], vi0 0]).val? = (AV.tp [.ag [.e (ofR (deN 32 l))], vi0 0]).val? := by
 have e1 := rF 4 [.n 1 (pre l 3 8), .n 1 (pre l 2 8), .n 1 (pre l 1 8), .n 1 (pre l 0 8)] (IC l) [] rfl
 rw [B4] at e1
 have e2 : flat [Ch.e (ofR (deN 32 l))] = limbs 4 (deN 32 l) := by simp only [flat, Ch.cells, List.append_nil]; rw [show (ofR (deN 32 l)).val = deN 32 l from Nat.mod_eq_of_lt h]
 have e3 : flat [.n 1 (pre l 3 8), .n 1 (pre l 2 8), .n 1 (pre l 1 8), .n 1 (pre l 0 8)] = flat [Ch.e (ofR (deN 32 l))] := by rw [e1, e2]; simp [flat]
 have e4 := rK (a := [.n 1 (pre l 3 8), .n 1 (pre l 2 8), .n 1 (pre l 1 8), .n 1 (pre l 0 8)]) (b := [Ch.e (ofR (deN 32 l))]) rfl rfl e3
 simp only [AV.val?, AV.vals?] at e4 ⊢
 rw [e4]
def abu (B : Nat -> Nat) : List Ora := [rO 1 (B 0), rO 1 (B 1), rO 1 (B 2), rO 1 (B 3), rO 1 (B 4), rO 1 (B 5), rO 1 (B 6), rO 1 (B 7), rO 1 (B 8), rO 1 (B 9), rO 1 (B 10), rO 1 (B 11), rO 1 (B 12), rO 1 (B 13), rO 1 (B 14), rO 1 (B 15), rO 1 (B 16), rO 1 (B 17), rO 1 (B 18), rO 1 (B 19), rO 1 (B 20), rO 1 (B 21), rO 1 (B 22), rO 1 (B 23), rO 1 (B 24), rO 1 (B 25), rO 1 (B 26), rO 1 (B 27), rO 1 (B 28), rO 1 (B 29), rO 1 (B 30), rO 1 (B 31)]
def Zs (B : Nat -> Nat) : List Ora := [{ ch := 2, hi := fun _ => B 0 }, { ch := 2, hi := fun _ => B 1 }, { ch := 2, hi := fun _ => B 2 }, { ch := 2, hi := fun _ => B 3 }, { ch := 2, hi := fun _ => B 4 }, { ch := 2, hi := fun _ => B 5 }, { ch := 2, hi := fun _ => B 6 }, { ch := 2, hi := fun _ => B 7 }, { ch := 2, hi := fun _ => B 8 }, { ch := 2, hi := fun _ => B 9 }, { ch := 2, hi := fun _ => B 10 }, { ch := 2, hi := fun _ => B 11 }, { ch := 2, hi := fun _ => B 12 }, { ch := 2, hi := fun _ => B 13 }, { ch := 2, hi := fun _ => B 14 }, { ch := 2, hi := fun _ => B 15 }, { ch := 2, hi := fun _ => B 16 }, { ch := 2, hi := fun _ => B 17 }, { ch := 2, hi := fun _ => B 18 }, { ch := 2, hi := fun _ => B 19 }, { ch := 2, hi := fun _ => B 20 }, { ch := 2, hi := fun _ => B 21 }, { ch := 2, hi := fun _ => B 22 }, { ch := 2, hi := fun _ => B 23 }, { ch := 2, hi := fun _ => B 24 }, { ch := 2, hi := fun _ => B 25 }, { ch := 2, hi := fun _ => B 26 }, { ch := 2, hi := fun _ => B 27 }, { ch := 2, hi := fun _ => B 28 }, { ch := 2, hi := fun _ => B 29 }, { ch := 2, hi := fun _ => B 30 }, { ch := 2, hi := fun _ => B 31 }]
def Zw (W : Nat -> Nat -> Nat) : List Ora := [{ ch := 1, hi := fun _ => W 0 1 }, { ch := 1, hi := fun _ => W 0 2 }, { ch := 1, hi := fun _ => W 0 3 }, { ch := 1, hi := fun _ => W 0 4 }, { ch := 1, hi := fun _ => W 0 5 }, { ch := 1, hi := fun _ => W 0 6 }, { ch := 1, hi := fun _ => W 0 7 }, { ch := 1, hi := fun _ => W 0 8 }, { ch := 1, hi := fun _ => W 1 1 }, { ch := 1, hi := fun _ => W 1 2 }, { ch := 1, hi := fun _ => W 1 3 }, { ch := 1, hi := fun _ => W 1 4 }, { ch := 1, hi := fun _ => W 1 5 }, { ch := 1, hi := fun _ => W 1 6 }, { ch := 1, hi := fun _ => W 1 7 }, { ch := 1, hi := fun _ => W 1 8 }, { ch := 1, hi := fun _ => W 2 1 }, { ch := 1, hi := fun _ => W 2 2 }, { ch := 1, hi := fun _ => W 2 3 }, { ch := 1, hi := fun _ => W 2 4 }, { ch := 1, hi := fun _ => W 2 5 }, { ch := 1, hi := fun _ => W 2 6 }, { ch := 1, hi := fun _ => W 2 7 }, { ch := 1, hi := fun _ => W 2 8 }, { ch := 1, hi := fun _ => W 3 1 }, { ch := 1, hi := fun _ => W 3 2 }, { ch := 1, hi := fun _ => W 3 3 }, { ch := 1, hi := fun _ => W 3 4 }, { ch := 1, hi := fun _ => W 3 5 }, { ch := 1, hi := fun _ => W 3 6 }, { ch := 1, hi := fun _ => W 3 7 }, { ch := 1, hi := fun _ => W 3 8 }]
def aa8 (B : Nat -> Nat) (W : Nat -> Nat -> Nat) (last : LO0) : Nat -> Ora := fun id =>
 match PU [3, 10, 14, 25] id with
 | true => nV 32
 | false =>
  match Nat.ble 45 id, Nat.blt id 828 with
  | true, true => (match (id - 45) % 25 with
   | 0 => Jv (abu B) ((id - 45) / 25)
   | 1 => Jv (Zs B) ((id - 45) / 25)
   | 2 => Jv (Zw W) ((id - 45) / 25)
   | _ => { ch := 0, hi := fun _ => 0 })
  | _, _ => oL last id
theorem K0 (l : LU0) : IC l < 115792089237316195423570985008687907853269984665640564039457584007913129639936 := by rw [B4]; exact Ry 32 l
set_option maxRecDepth 100000 in
def LE {l : LU0} (h : l.length = 32) := PLift.up (show ((l.length : Nat) : Int) = ((32 : Nat) : Int) from by rw [h])
def Wv {l : LU0} {B : Nat -> Nat} {W : Nat -> Nat -> Nat} (h : l.length = 32) (hR : ∀ i : Nat, i < 32 -> (0 : Int) <= (i : Int) /\ (i : Int) < (ofL l).size /\ ((ofL l)[(i : Int).toNat]?.getD 0).toNat = B i) (hC : ∀ i, IntKind.u64 = IntKind.u64 /\ IntKind.u64.wrap ((B i : Nat) : Int) = ((B i % 18446744073709551616 : Nat) : Int)) (h0 : ∀ k, (0 ||| B (8 * k + 0) % 18446744073709551616) % 18446744073709551616 = W k 1 % 18446744073709551616) (h1 : ∀ k m, m < 8 -> (W k m / 18446744073709551616 ^ 0 * 2 ^ min 8 64 % 18446744073709551616 ||| B (8 * k + m) % 18446744073709551616) % 18446744073709551616 = W k (m + 1) % 18446744073709551616) := PLift.up (ai (h1 3 7 (by decide)) (ai (hC 31) (ai (hR 31 (by decide)) (ai (h1 3 6 (by decide)) (ai (hC 30) (ai (hR 30 (by decide)) (ai (h1 3 5 (by decide)) (ai (hC 29) (ai (hR 29 (by decide)) (ai (h1 3 4 (by decide)) (ai (hC 28) (ai (hR 28 (by decide)) (ai (h1 3 3 (by decide)) (ai (hC 27) (ai (hR 27 (by decide)) (ai (h1 3 2 (by decide)) (ai (hC 26) (ai (hR 26 (by decide)) (ai (h1 3 1 (by decide)) (ai (hC 25) (ai (hR 25 (by decide)) (ai (h0 3) (ai (hC 24) (ai (hR 24 (by decide)) (ai (h1 2 7 (by decide)) (ai (hC 23) (ai (hR 23 (by decide)) (ai (h1 2 6 (by decide)) (ai (hC 22) (ai (hR 22 (by decide)) (ai (h1 2 5 (by decide)) (ai (hC 21) (ai (hR 21 (by decide)) (ai (h1 2 4 (by decide)) (ai (hC 20) (ai (hR 20 (by decide)) (ai (h1 2 3 (by decide)) (ai (hC 19) (ai (hR 19 (by decide)) (ai (h1 2 2 (by decide)) (ai (hC 18) (ai (hR 18 (by decide)) (ai (h1 2 1 (by decide)) (ai (hC 17) (ai (hR 17 (by decide)) (ai (h0 2) (ai (hC 16) (ai (hR 16 (by decide)) (ai (h1 1 7 (by decide)) (ai (hC 15) (ai (hR 15 (by decide)) (ai (h1 1 6 (by decide)) (ai (hC 14) (ai (hR 14 (by decide)) (ai (h1 1 5 (by decide)) (ai (hC 13) (ai (hR 13 (by decide)) (ai (h1 1 4 (by decide)) (ai (hC 12) (ai (hR 12 (by decide)) (ai (h1 1 3 (by decide)) (ai (hC 11) (ai (hR 11 (by decide)) (ai (h1 1 2 (by decide)) (ai (hC 10) (ai (hR 10 (by decide)) (ai (h1 1 1 (by decide)) (ai (hC 9) (ai (hR 9 (by decide)) (ai (h0 1) (ai (hC 8) (ai (hR 8 (by decide)) (ai (h1 0 7 (by decide)) (ai (hC 7) (ai (hR 7 (by decide)) (ai (h1 0 6 (by decide)) (ai (hC 6) (ai (hR 6 (by decide)) (ai (h1 0 5 (by decide)) (ai (hC 5) (ai (hR 5 (by decide)) (ai (h1 0 4 (by decide)) (ai (hC 4) (ai (hR 4 (by decide)) (ai (h1 0 3 (by decide)) (ai (hC 3) (ai (hR 3 (by decide)) (ai (h1 0 2 (by decide)) (ai (hC 2) (ai (hR 2 (by decide)) (ai (h1 0 1 (by decide)) (ai (hC 1) (ai (hR 1 (by decide)) (ai (h0 0) (ai (hC 0) (ai (hR 0 (by decide)) (ai (LE h).down (ai (LE h).down (ai (LE h).down (ai (LE h).down tt0))))))))))))))))))))))))))))))))))))))))))))))))))))))))))))))))))))))))))))))))))))))))))))))))))))
theorem JH {a : List XV} {r : AV} {b : Prop} (o : Nat -> Ora) (h : fnA prog (qO _) [x8] 1 o f29 a = some (r, b)) (hv : ∃ v, r.val? = some v) (hb : b) : Gives prog 29 a r := p6 (P := prog) (X := qO _) (env := [x8]) ⟨x9, tt0⟩ func29 1 o h hv hb
theorem Mp (l : LU0) (B : Nat -> Nat) (W : Nat -> Nat -> Nat) (h : l.length = 32) (hR : ∀ i : Nat, i < 32 -> (0 : Int) <= (i : Int) /\ (i : Int) < (ofL l).size /\ ((ofL l)[(i : Int).toNat]?.getD 0).toNat = B i) (hC : ∀ i, IntKind.u64 = IntKind.u64 /\ IntKind.u64.wrap ((B i : Nat) : Int) = ((B i % 18446744073709551616 : Nat) : Int)) (h0 : ∀ k, (0 ||| B (8 * k + 0) % 18446744073709551616) % 18446744073709551616 = W k 1 % 18446744073709551616) (h1 : ∀ k m, m < 8 -> (W k m / 18446744073709551616 ^ 0 * 2 ^ min 8 64 % 18446744073709551616 ||| B (8 * k + m) % 18446744073709551616) % 18446744073709551616 = W k (m + 1) % 18446744073709551616) (hN : (W 3 8 % 18446744073709551616 + 18446744073709551616 * (W 2 8 % 18446744073709551616 + 18446744073709551616 * (W 1 8 % 18446744073709551616 + 18446744073709551616 * (W 0 8 % 18446744073709551616 + 18446744073709551616 * (0))))) < 115792089237316195423570985008687907853269984665640564039457584007913129639936 /\ (W 3 8 % 18446744073709551616 + 18446744073709551616 * (W 2 8 % 18446744073709551616 + 18446744073709551616 * (W 1 8 % 18446744073709551616 + 18446744073709551616 * (W 0 8 % 18446744073709551616 + 18446744073709551616 * (0))))) < 52435875175126190479447740508185965837690552500527637822603658699938581184513) : Gives prog 29 [.t (.v (.string (ofL l)))] (.tp [.ag [.n 1 (W 3 8), .n 1 (W 2 8), .n 1 (W 1 8), .n 1 (W 0 8)], vi0 0]) :=
 JH (aa8 B W [(844, wO 0)]) (by kernel_rfl) ⟨_, rfl⟩ (ai (hN) (Wv h hR hC h0 h1).down)
set_option maxRecDepth 100000 in
abbrev Pc : List Ch := [.c (.int .u64 0), .c (.int .u64 0), .c (.int .u64 0), .c (.int .u64 0)]
theorem Na (l : LU0) (B : Nat -> Nat) (W : Nat -> Nat -> Nat) (h : l.length = 32) (hR : ∀ i : Nat, i < 32 -> (0 : Int) <= (i : Int) /\ (i : Int) < (ofL l).size /\ ((ofL l)[(i : Int).toNat]?.getD 0).toNat = B i) (hC : ∀ i, IntKind.u64 = IntKind.u64 /\ IntKind.u64.wrap ((B i : Nat) : Int) = ((B i % 18446744073709551616 : Nat) : Int)) (h0 : ∀ k, (0 ||| B (8 * k + 0) % 18446744073709551616) % 18446744073709551616 = W k 1 % 18446744073709551616) (h1 : ∀ k m, m < 8 -> (W k m / 18446744073709551616 ^ 0 * 2 ^ min 8 64 % 18446744073709551616 ||| B (8 * k + m) % 18446744073709551616) % 18446744073709551616 = W k (m + 1) % 18446744073709551616) (hN : (W 3 8 % 18446744073709551616 + 18446744073709551616 * (W 2 8 % 18446744073709551616 + 18446744073709551616 * (W 1 8 % 18446744073709551616 + 18446744073709551616 * (W 0 8 % 18446744073709551616 + 18446744073709551616 * (0))))) < 115792089237316195423570985008687907853269984665640564039457584007913129639936 /\ 52435875175126190479447740508185965837690552500527637822603658699938581184513 <= (W 3 8 % 18446744073709551616 + 18446744073709551616 * (W 2 8 % 18446744073709551616 + 18446744073709551616 * (W 1 8 % 18446744073709551616 + 18446744073709551616 * (W 0 8 % 18446744073709551616 + 18446744073709551616 * (0)))))) : Gives prog 29 [.t (.v (.string (ofL l)))] (.tp [.ag Pc, vi0 20]) :=
 JH (aa8 B W [(844, wO 1)]) (by kernel_rfl) ⟨_, rfl⟩ (ai (hN) (Wv h hR hC h0 h1).down)
theorem Po (l : LU0) (h : l.length = 32) (hp : deN 32 l < 52435875175126190479447740508185965837690552500527637822603658699938581184513) : Gives prog 29 [.t (.v (.string (ofL l)))] (.tp [.ag [.e (ofR (deN 32 l))], vi0 0]) :=
 Gives.same (Mp l (byt l) (pre l) h (fun i hi => yQ l 32 i h hi) (yA l) (B0 l) (fun k m hm => by rw [Nat.pow_zero, Nat.div_one]; exact F4 l k m hm) (show IC l < 115792089237316195423570985008687907853269984665640564039457584007913129639936 /\ IC l < 52435875175126190479447740508185965837690552500527637822603658699938581184513 from ⟨K0 l, by rw [B4]; exact hp⟩)) (Um l hp).symm
theorem Ol (l : LU0) (h : l.length = 32) (hp : 52435875175126190479447740508185965837690552500527637822603658699938581184513 <= deN 32 l) : Gives prog 29 [.t (.v (.string (ofL l)))] (.tp [.ag [.c (.int .u64 0), .c (.int .u64 0), .c (.int .u64 0), .c (.int .u64 0)], vi0 20]) :=
 Na l (byt l) (pre l) h (fun i hi => yQ l 32 i h hi) (yA l) (B0 l) (fun k m hm => by rw [Nat.pow_zero, Nat.div_one]; exact F4 l k m hm) (show IC l < 115792089237316195423570985008687907853269984665640564039457584007913129639936 /\ 52435875175126190479447740508185965837690552500527637822603658699938581184513 <= IC l from ⟨K0 l, by rw [B4]; exact hp⟩)
theorem MH (l : LU0) (h : l.length ≠ 32) : Gives prog 29 [.t (.v (.string (ofL l)))] (.tp [.ag Pc, vi0 3]) :=
 JH (oL [(4, wT)]) (by kernel_rfl) ⟨_, rfl⟩ (ai (show ((((l.length : Nat) : Int) != 32) = true) from by simp; omega) tt0)
end Go.Proofs.YtokjhbmmdmeafaaGreat
set_option linter.unusedSimpArgs false
set_option linter.unusedVariables false
namespace Go.Proofs.YtokjhbmmdmeafaaGreat
open Go.Ev Go.RowKit
open Tryz
def sm4 (ns : List Nat) : Prop := ∀ x, x ∈ ns -> x < 115792089237316195423570985008687907853269984665640564039457584007913129639936
def re (ns : List Nat) : Prop := ∀ x, x ∈ ns -> x < Rr
instance (ns : List Nat) : Decidable (re ns) := inferInstanceAs (Decidable (∀ x, x ∈ ns -> x < Rr))
theorem Er : ∀ ns : List Nat, re ns ∨ ∃ j x : Nat, ns[j]? = some x /\ ¬ x < Rr /\ ∀ (i y : Nat), i < j -> ns[i]? = some y -> y < Rr
 | [] => .inl (fun x hx => by cases hx)
 | n :: ns => by
  by_cases h : n < Rr
  ·rcases Er ns with h1 | ⟨j, x, h1, h2, h3⟩
   ·exact .inl (fun x hx => by rcases List.mem_cons.1 hx with rfl | hx; exact h; exact h1 x hx)
   ·refine .inr ⟨j + 1, x, h1, h2, fun i y hi hy => ?_⟩
    match i, hy with
    | 0, hy => simp only [List.getElem?_cons_zero, oi0] at hy; subst hy; exact h
    | i + 1, hy => exact h3 i y (by omega) (by simpa using hy)
  ·exact .inr ⟨0, n, rfl, h, fun i y hi => by omega⟩
theorem ze (ns : List Nat) (i x : Nat) (h : ns[i]? = some x) : qq [.n 4 x] = 4 /\ ((flat [.l (numC 4 ns)]).drop (i * 4)).take 4 = flat [.n 4 x] := by
 refine ⟨rfl, ?_⟩
 rw [x7]
 have := BW (limbs 4) (sC 4) ns i x h
 rw [show numC 4 ns = ns.flatMap (limbs 4) from rfl, this]
 simp [flat, Ch.cells]
theorem zD {ns : List Nat} {i x : Nat} (h : ns[i]? = some x) : i < ns.length := (List.getElem?_eq_some_iff.1 h).1
theorem yp {ns : List Nat} {i x : Nat} (h : ns[i]? = some x) : x ∈ ns := List.mem_of_getElem? h
theorem C3 {ns : List Nat} {i : Nat} (h : i < ns.length) : ∃ x, ns[i]? = some x := ⟨_, List.getElem?_eq_getElem h⟩
def Ny : Entry := ql 81 yX.x (fun a => [(some (a < 115792089237316195423570985008687907853269984665640564039457584007913129639936 /\ a < Rr), .v (.bool false)), (some (a < 115792089237316195423570985008687907853269984665640564039457584007913129639936 /\ Rr <= a), .v (.bool true))])
theorem zH : Ny.OK prog := qb (fun args w => Go.Proofs.enters_of (P := prog) func81 (by kernel_rfl) rfl args w) (fun a c r hm hc => by
 simp only [List.mem_cons, pi0, List.not_mem_nil, or_false] at hm
 rcases hm with ⟨rfl, rfl⟩ | ⟨rfl, rfl⟩
 ·exact pX (P := prog) (env := [x8]) ⟨x9, tt0⟩ func81 0 (oN [] [(3, 0)]) (by kernel_rfl) (ai (show a < 115792089237316195423570985008687907853269984665640564039457584007913129639936 /\ a < 52435875175126190479447740508185965837690552500527637822603658699938581184513 from hc) tt0)
 ·exact pX (P := prog) (env := [x8]) ⟨x9, tt0⟩ func81 0 (oN [] [(3, 1)]) (by kernel_rfl) (ai (show a < 115792089237316195423570985008687907853269984665640564039457584007913129639936 /\ 52435875175126190479447740508185965837690552500527637822603658699938581184513 <= a from hc) tt0))
def fcI (ns : List Nat) (z : Int) : LState := { n := 19, sl := [(0, .sz 0 ns.length), (1, .clo 81 [] []), (7, vi0 ((ns.length : Nat) : Int)), (8, vi0 z)], hp := [(0, .rz [.l (numC 4 ns)])] }
def fcE (ns : List Nat) : LState := { n := 19, sl := [], hp := [(0, .rz [.l (numC 4 ns)])] }
def fcF (ns : List Nat) (z : Int) : LState := { n := 19, sl := [(4, vi0 z)], hp := [(0, .rz [.l (numC 4 ns)])] }
theorem HY (ns : List Nat) (i x : Nat) (hx : ns[i]? = some x) (hm : ns.length <= 1000000) (hb : sm4 ns) (hr : x < Rr) : Sound prog 8 false (qc f108 0) (fcI ns (i : Int)).aa .normal (fcI ns ((i + 1 : Nat) : Int)).aa := by
 have hi := zD hx
 have hs := p9 (P := prog) (X := qa _) (env := [Ny]) ⟨zH, tt0⟩ (n := 0) (os := oL [(12, wT), (18, rO 14 i), (19, { ch := 0, hi := fun _ => 0, ru := 8, cs := fun _ => [.n 4 x] }), (20, wO 0)]) (fb := 8) (rd := false) (c := (qc f108 0)) (k := 12) (I := fcI ns (i : Int)) (sk := [0, 1, 7, 8]) (hk := [0]) (lk := []) (ex := .normal)
  (L := fcI ns (IntKind.i64.wrap ((i : Int) + 1))) (by kernel_rfl) (ai (show x < 115792089237316195423570985008687907853269984665640564039457584007913129639936 /\ x < Rr from ⟨hb x (yp hx), hr⟩) (ai (ze ns i x hx) (ai (show (i : Int) = ((i : Nat) : Int) /\ i < ns.length from ⟨rfl, hi⟩) (ai (show decide ((i : Int) < ((ns.length : Nat) : Int)) = true from decide_eq_true (by omega)) tt0))))
 rw [show IntKind.i64.wrap ((i : Int) + 1) = ((i + 1 : Nat) : Int) by rw [qj]; omega] at hs
 exact hs
theorem Xg (ns : List Nat) : Sound prog 8 false (qc f108 0) (fcI ns ((ns.length : Nat) : Int)).aa (.exit 0) (fcE ns).aa :=
 p9 (P := prog) (X := qa _) (env := [Ny]) ⟨zH, tt0⟩ (n := 0) (os := oL [(12, wF)]) (fb := 8) (rd := false) (c := (qc f108 0)) (k := 12) (I := fcI ns ((ns.length : Nat) : Int)) (sk := []) (hk := [0]) (lk := []) (ex := .exit 0)
  (L := fcE ns) (by kernel_rfl) (ai (show decide (((ns.length : Nat) : Int) < ((ns.length : Nat) : Int)) = false from decide_eq_false (by omega)) tt0)
theorem XX (ns : List Nat) (i x : Nat) (hx : ns[i]? = some x) (hb : sm4 ns) (hr : ¬ x < Rr) : Sound prog 8 false (qc f108 0) (fcI ns (i : Int)).aa .ret (fcF ns (i : Int)).aa := by
 have hi := zD hx
 exact p9 (P := prog) (X := qa _) (env := [Ny]) ⟨zH, tt0⟩ (n := 0) (os := oL [(12, wT), (18, rO 14 i), (19, { ch := 0, hi := fun _ => 0, ru := 8, cs := fun _ => [.n 4 x] }), (20, wO 1)]) (fb := 8) (rd := false) (c := (qc f108 0)) (k := 12) (I := fcI ns (i : Int)) (sk := [4]) (hk := [0]) (lk := []) (ex := .ret)
  (L := fcF ns (i : Int)) (by kernel_rfl) (ai (show x < 115792089237316195423570985008687907853269984665640564039457584007913129639936 /\ Rr <= x from ⟨hb x (yp hx), Nat.le_of_not_lt hr⟩) (ai (ze ns i x hx) (ai (show (i : Int) = ((i : Nat) : Int) /\ i < ns.length from ⟨rfl, hi⟩) (ai (show decide ((i : Int) < ((ns.length : Nat) : Int)) = true from decide_eq_true (by omega)) tt0))))
theorem YQ (ns : List Nat) (hm : ns.length <= 1000000) (hb : sm4 ns) (hc : re ns) : Sound prog 8 false (.loop (qc f108 0)) (fcI ns 0).aa (.exit 0) (fcE ns).aa := by
 refine qw (m := fun y : { i : Nat // i <= ns.length } => ns.length - y.val) (fun y => fcI ns (y.val : Int)) (by simp) (fun y => ?_) ⟨0, by omega⟩
 obtain ⟨i, hi⟩ := y
 by_cases e : i < ns.length
 ·obtain ⟨x, hx⟩ := C3 e
  exact .inl ⟨⟨i + 1, e⟩, by show ns.length - (i + 1) < ns.length - i; omega, HY ns i x hx hm hb (hc x (yp hx))⟩
 ·have e : i = ns.length := by omega
  subst e
  exact .inr (Xg ns)
theorem aaz (ns : List Nat) (hm : ns.length <= 1000000) (hb : sm4 ns) (j x : Nat) (hj : ns[j]? = some x) (hx : ¬ x < Rr) (hp : ∀ i y, i < j -> ns[i]? = some y -> y < Rr) : Sound prog 8 false (.loop (qc f108 0)) (fcI ns 0).aa .ret (fcF ns (j : Int)).aa := by
 refine qw (m := fun y : { i : Nat // i <= j } => j - y.val) (fun y => fcI ns (y.val : Int)) (by simp) (fun y => ?_) ⟨0, by omega⟩
 obtain ⟨i, hi⟩ := y
 by_cases e : i < j
 ·obtain ⟨y, hy⟩ := C3 (show i < ns.length by have := zD hj; omega)
  exact .inl ⟨⟨i + 1, by omega⟩, by show j - (i + 1) < j - i; omega, HY ns i y hy hm hb (hp i y e hy)⟩
 ·have e : i = j := by omega
  subst e
  exact .inr (XX ns i x hj hb hx)
theorem DA (ns : List Nat) (hm : ns.length <= 1000000) (hb : sm4 ns) (hc : re ns) : Gives prog 38 [.rz [.l (numC 4 ns)] ns.length] (.v (.bool true)) :=
 p6 (P := prog) (X := qa _) (env := [Ny]) ⟨zH, tt0⟩ func38 2 (oL [(12, lpO { I := fcI ns 0, ex := .exit 0, E := fcE ns, fr := 13 })]) (by kernel_rfl) ⟨_, rfl⟩ (ai (show some (fcI ns 0) = some (fcI ns 0) from rfl) (ai (YQ ns hm hb hc) tt0))
theorem Eg (ns : List Nat) (hm : ns.length <= 1000000) (hb : sm4 ns) (hc : ¬ re ns) : Gives prog 38 [.rz [.l (numC 4 ns)] ns.length] (.v (.bool false)) := by
 rcases Er ns with h | ⟨j, x, h1, h2, h3⟩
 ·exact absurd h hc
 ·exact p6 (P := prog) (X := qa _) (env := [Ny]) ⟨zH, tt0⟩ func38 2 (oL [(12, lpO { I := fcI ns 0, ex := .ret, E := fcF ns (j : Int), fr := 13 }), (13, wT)]) (by kernel_rfl) ⟨_, rfl⟩ (ai (show decide ((j : Int) >= 0) = true from decide_eq_true (by omega)) (ai (show some (fcI ns 0) = some (fcI ns 0) from rfl) (ai (aaz ns hm hb j x h1 h2 h3) tt0)))
def ZB : XPar (List Nat) := XPar.ns 4 yX (fun _ => rfl)
def uQ : Entry := ql 38 ZB (fun ns => [(some (ns.length <= 1000000 /\ sm4 ns /\ re ns), .v (.bool true)), (some (ns.length <= 1000000 /\ sm4 ns /\ ¬ re ns), .v (.bool false))])
theorem vi : uQ.OK prog := qb (fun args w => Go.Proofs.enters_of (P := prog) func38 (by kernel_rfl) rfl args w) (fun ns c r hm hc => by
 simp only [List.mem_cons, pi0, List.not_mem_nil, or_false] at hm
 rcases hm with ⟨rfl, rfl⟩ | ⟨rfl, rfl⟩
 ·exact DA ns hc.1 hc.2.1 hc.2.2
 ·exact Eg ns hc.1 hc.2.1 hc.2.2)
end Go.Proofs.YtokjhbmmdmeafaaGreat
set_option linter.unusedSimpArgs false
set_option linter.unusedVariables false
namespace Go.Proofs.YtokjhbmmdmeafaaGreat
open Go.Ev Go.RowKit
open Tryz
def qL (n : Nat) : LU0 := beL 32 (Ys (.inr n)).val
def numB (ns : List Nat) : LU0 := ns.flatMap qL
theorem rB (n : Nat) : (qL n).length = 32 := u7 _ _
theorem vO (ns : List Nat) : (numB ns).length = 32 * ns.length := by
 induction ns with
 | nil => rfl
 | cons n ns ih => simp only [numB, List.flatMap_cons, List.length_append, rB, List.length_cons] at ih ⊢; omega
theorem E4 {ns : List Nat} {i x : Nat} (h : ns[i]? = some x) : ns.take (i + 1) = ns.take i ++ [x] := by
 rw [List.take_add_one, h]; rfl
theorem Ep {ns : List Nat} {i x : Nat} (h : ns[i]? = some x) : numB (ns.take (i + 1)) = numB (ns.take i) ++ qL x := by
 rw [E4 h]; simp [numB]
def b4 (k : IntKind) (n : Int) : LU0 := [UInt8.ofNat (IntKind.u8.wrap (n.fdiv (2 ^ min 24 k.bits))).toNat, UInt8.ofNat (IntKind.u8.wrap (n.fdiv (2 ^ min 16 k.bits))).toNat, UInt8.ofNat (IntKind.u8.wrap (n.fdiv (2 ^ min 8 k.bits))).toNat, UInt8.ofNat (IntKind.u8.wrap n).toNat]
def wo : Entry := ql 45 (XPar.int .u32) (fun n => [(none, .v (.string (ofL (b4 .u32 n))))])
theorem uv : wo.OK prog := qb (fun args w => Go.Proofs.enters_of (P := prog) func45 (by kernel_rfl) rfl args w) (fun n => only (pX (P := prog) (env := []) trivial func45 0 o0 (by kernel_rfl) tt0))
theorem Mo (n : Int) : IntKind.u32.wrap n = n % 4294967296 := rfl
theorem z7 (n : Int) : IntKind.u8.wrap n = n % 256 := rfl
theorem xI (n : Int) : b4 .u32 (IntKind.u32.wrap n) = b4 .i64 n := by
 have e : ∀ k : Nat, (2 : Int) ^ min k IntKind.u32.bits = 2 ^ min k 32 := fun k => rfl
 have e' : ∀ k : Nat, (2 : Int) ^ min k IntKind.i64.bits = 2 ^ min k 64 := fun k => rfl
 simp only [b4, Mo, z7, e, e', show min 24 32 = 24 from rfl, show min 16 32 = 16 from rfl, show min 8 32 = 8 from rfl, show min 24 64 = 24 from rfl, show min 16 64 = 16 from rfl, show min 8 64 = 8 from rfl,
  show (2 : Int) ^ 24 = 16777216 from rfl, show (2 : Int) ^ 16 = 65536 from rfl, show (2 : Int) ^ 8 = 256 from rfl]
 have f1 : ∀ a : Int, a.fdiv 16777216 = a / 16777216 := fun a => Int.fdiv_eq_ediv_of_nonneg _ (by decide)
 have f2 : ∀ a : Int, a.fdiv 65536 = a / 65536 := fun a => Int.fdiv_eq_ediv_of_nonneg _ (by decide)
 have f3 : ∀ a : Int, a.fdiv 256 = a / 256 := fun a => Int.fdiv_eq_ediv_of_nonneg _ (by decide)
 simp only [f1, f2, f3]
 rw [show n % 4294967296 / 16777216 % 256 = n / 16777216 % 256 by omega, show n % 4294967296 / 65536 % 256 = n / 65536 % 256 by omega, show n % 4294967296 / 256 % 256 = n / 256 % 256 by omega, show n % 4294967296 % 256 = n % 256 by omega]
theorem A6 (k : IntKind) (n : Int) : (b4 k n).length = 4 := rfl
end Go.Proofs.YtokjhbmmdmeafaaGreat
set_option linter.unusedSimpArgs false
set_option linter.unusedVariables false
namespace Go.Proofs.YtokjhbmmdmeafaaGreat
open Go.Ev Go.RowKit
open Tryz
structure GT where
 q0 : Nat
 q1 : Nat
 q2 : Nat
 q3 : Nat
 q4 : Nat
 w0 : Int
 w1 : Int
 w2 : Int
def gP (g : GT) : List Ch := [.n 4 g.q0, .n 4 g.q1, .n 4 g.q2, .n 4 g.q3, .n 4 g.q4, ci0 g.w0, ci0 g.w1, ci0 g.w2]
def gC (g : GT) : List Value := flat (gP g)
theorem Ba (g : GT) : (gC g).length = 23 := by unfold gC gP; simp [flat, Ch.cells, sC]
def gsC (gs : List GT) : List Value := gs.flatMap gC
def bw (vars v : Int) : Prop := v < -1 ∨ v >= vars
instance (vars v : Int) : Decidable (bw vars v) := inferInstanceAs (Decidable (_ ∨ _))
def okW (vars : Int) (g : GT) : Prop := ¬ bw vars g.w0 /\ ¬ bw vars g.w1 /\ ¬ bw vars g.w2
instance (vars : Int) (g : GT) : Decidable (okW vars g) := inferInstanceAs (Decidable (_ /\ _))
def tl (gs : List GT) (pub vars : Int) : Prop := gs.length <= 4096 /\ 0 <= pub /\ pub <= gs.length /\ 0 <= vars /\ ∀ g, g ∈ gs -> okW vars g
theorem tN (gs : List GT) (i : Nat) (g : GT) (h : gs[i]? = some g) : qq (gP g) = 23 /\ ((flat [.l (gsC gs)]).drop (i * 23)).take 23 = flat (gP g) := by
 refine ⟨rfl, ?_⟩
 rw [x7]
 exact BW gC Ba gs i g h
theorem G4 (vars : Int) : ∀ gs : List GT, (∀ g, g ∈ gs -> okW vars g) ∨ ∃ (j : Nat) (g : GT), gs[j]? = some g /\ ¬ okW vars g /\ ∀ (i : Nat) (y : GT), i < j -> gs[i]? = some y -> okW vars y
 | [] => .inl (fun x hx => by cases hx)
 | n :: ns => by
  by_cases h : okW vars n
  ·rcases G4 vars ns with h1 | ⟨j, x, h1, h2, h3⟩
   ·exact .inl (fun x hx => by rcases List.mem_cons.1 hx with rfl | hx; exact h; exact h1 x hx)
   ·refine .inr ⟨j + 1, x, h1, h2, fun i y hi hy => ?_⟩
    match i, hy with
    | 0, hy => simp only [List.getElem?_cons_zero, oi0] at hy; subst hy; exact h
    | i + 1, hy => exact h3 i y (by omega) (by simpa using hy)
  ·exact .inr ⟨0, n, rfl, h, fun i y hi => by omega⟩
theorem glt {gs : List GT} {i : Nat} {x : GT} (h : gs[i]? = some x) : i < gs.length := (List.getElem?_eq_some_iff.1 h).1
theorem Mw {gs : List GT} {i : Nat} {x : GT} (h : gs[i]? = some x) : x ∈ gs := List.mem_of_getElem? h
theorem gof {gs : List GT} {i : Nat} (h : i < gs.length) : ∃ x, gs[i]? = some x := ⟨_, List.getElem?_eq_getElem h⟩
theorem nlt {vars v : Int} (h : ¬ bw vars v) : decide (v < -1) = false := decide_eq_false (fun e => h (.inl e))
theorem nge {vars v : Int} (h : ¬ bw vars v) : decide (v >= vars) = false := decide_eq_false (fun e => h (.inr e))
def ccI (gs : List GT) (pub vars z : Int) : LState := { n := 19, sl := [(0, .sz 0 gs.length), (1, .clo 77 [] [.p 4 0]), (7, vi0 ((gs.length : Nat) : Int)), (8, vi0 z)], hp := [(0, .rz [.l (gsC gs)]), (4, .own [.sz 0 gs.length, ci0 pub, ci0 vars] 49)] }
def ccE (gs : List GT) (pub vars : Int) : LState := { n := 19, sl := [], hp := [(0, .rz [.l (gsC gs)]), (4, .own [.sz 0 gs.length, ci0 pub, ci0 vars] 49)] }
def ccF (gs : List GT) (pub vars z : Int) : LState := { n := 19, sl := [(4, vi0 z)], hp := [(0, .rz [.l (gsC gs)]), (4, .own [.sz 0 gs.length, ci0 pub, ci0 vars] 49)] }
def Lk (g : GT) : Ora := { ch := 0, hi := fun _ => 0, ru := 8, cs := fun _ => gP g }
theorem aaZ (gs : List GT) (pub vars : Int) (i : Nat) (g : GT) (hg : gs[i]? = some g) (hb : g.w0 < -1) : Sound prog 36 false (qc f106 0) (ccI gs pub vars (i : Int)).aa .ret (ccF gs pub vars (i : Int)).aa := by
 have hi := glt hg
 exact p9 (P := prog) (X := qa _) (env := []) trivial (n := 4) (os := oL [(40, wT), (46, rO 14 i), (47, (Lk g)), (74, wT)]) (fb := 36) (rd := false) (c := (qc f106 0)) (k := 40) (I := ccI gs pub vars (i : Int)) (sk := [4]) (hk := [0, 4]) (lk := []) (ex := .ret)
  (L := ccF gs pub vars (i : Int)) (by kernel_rfl) (ai (show decide (g.w0 < -1) = true from decide_eq_true hb) (ai (tN gs i g hg) (ai (show (i : Int) = ((i : Nat) : Int) /\ i < gs.length from ⟨rfl, hi⟩) (ai (show decide ((i : Int) < ((gs.length : Nat) : Int)) = true from decide_eq_true (by omega)) tt0))))
def Cv (i : Nat) (g : GT) : LO0 := [(40, wT), (46, rO 14 i), (47, (Lk g)), (74, wF)]
theorem Y8 (gs : List GT) (pub vars : Int) (i : Nat) (g : GT) (hg : gs[i]? = some g) (ha : ¬ g.w0 < -1) (hb : g.w0 >= vars) : Sound prog 36 false (qc f106 0) (ccI gs pub vars (i : Int)).aa .ret (ccF gs pub vars (i : Int)).aa := by
 have hi := glt hg
 exact p9 (P := prog) (X := qa _) (env := []) trivial (n := 4) (os := oL ((Cv i g) ++ [(79, wT)])) (fb := 36) (rd := false) (c := (qc f106 0)) (k := 40) (I := ccI gs pub vars (i : Int)) (sk := [4]) (hk := [0, 4]) (lk := []) (ex := .ret)
  (L := ccF gs pub vars (i : Int)) (by kernel_rfl) (ai (show decide (g.w0 >= vars) = true from decide_eq_true hb) (ai (show decide (g.w0 < -1) = false from decide_eq_false ha) (ai (tN gs i g hg) (ai (show (i : Int) = ((i : Nat) : Int) /\ i < gs.length from ⟨rfl, hi⟩) (ai (show decide ((i : Int) < ((gs.length : Nat) : Int)) = true from decide_eq_true (by omega)) tt0)))))
theorem aat (gs : List GT) (pub vars : Int) (i : Nat) (g : GT) (hg : gs[i]? = some g) (h0 : ¬ bw vars g.w0) (hb : g.w1 < -1) : Sound prog 36 false (qc f106 0) (ccI gs pub vars (i : Int)).aa .ret (ccF gs pub vars (i : Int)).aa := by
 have hi := glt hg
 exact p9 (P := prog) (X := qa _) (env := []) trivial (n := 4) (os := oL ((Cv i g) ++ [(79, wF), (95, wT)])) (fb := 36) (rd := false) (c := (qc f106 0)) (k := 40) (I := ccI gs pub vars (i : Int)) (sk := [4]) (hk := [0, 4]) (lk := []) (ex := .ret)
  (L := ccF gs pub vars (i : Int)) (by kernel_rfl) (ai (show decide (g.w1 < -1) = true from decide_eq_true hb) (ai (show decide (g.w0 >= vars) = false from nge h0) (ai (show decide (g.w0 < -1) = false from nlt h0) (ai (tN gs i g hg) (ai (show (i : Int) = ((i : Nat) : Int) /\ i < gs.length from ⟨rfl, hi⟩) (ai (show decide ((i : Int) < ((gs.length : Nat) : Int)) = true from decide_eq_true (by omega)) tt0))))))
theorem aaV (gs : List GT) (pub vars : Int) (i : Nat) (g : GT) (hg : gs[i]? = some g) (h0 : ¬ bw vars g.w0) (ha : ¬ g.w1 < -1) (hb : g.w1 >= vars) : Sound prog 36 false (qc f106 0) (ccI gs pub vars (i : Int)).aa .ret (ccF gs pub vars (i : Int)).aa := by
 have hi := glt hg
 exact p9 (P := prog) (X := qa _) (env := []) trivial (n := 4) (os := oL ((Cv i g) ++ [(79, wF), (95, wF), (100, wT)])) (fb := 36) (rd := false) (c := (qc f106 0)) (k := 40) (I := ccI gs pub vars (i : Int)) (sk := [4]) (hk := [0, 4]) (lk := []) (ex := .ret)
  (L := ccF gs pub vars (i : Int)) (by kernel_rfl) (ai (show decide (g.w1 >= vars) = true from decide_eq_true hb) (ai (show decide (g.w1 < -1) = false from decide_eq_false ha) (ai (show decide (g.w0 >= vars) = false from nge h0) (ai (show decide (g.w0 < -1) = false from nlt h0) (ai (tN gs i g hg) (ai (show (i : Int) = ((i : Nat) : Int) /\ i < gs.length from ⟨rfl, hi⟩) (ai (show decide ((i : Int) < ((gs.length : Nat) : Int)) = true from decide_eq_true (by omega)) tt0)))))))
theorem Zb (gs : List GT) (pub vars : Int) (i : Nat) (g : GT) (hg : gs[i]? = some g) (h0 : ¬ bw vars g.w0) (h1 : ¬ bw vars g.w1) (hb : g.w2 < -1) : Sound prog 36 false (qc f106 0) (ccI gs pub vars (i : Int)).aa .ret (ccF gs pub vars (i : Int)).aa := by
 have hi := glt hg
 exact p9 (P := prog) (X := qa _) (env := []) trivial (n := 4) (os := oL ((Cv i g) ++ [(79, wF), (95, wF), (100, wF), (116, wT)])) (fb := 36) (rd := false) (c := (qc f106 0)) (k := 40) (I := ccI gs pub vars (i : Int)) (sk := [4]) (hk := [0, 4]) (lk := []) (ex := .ret)
  (L := ccF gs pub vars (i : Int)) (by kernel_rfl) (ai (show decide (g.w2 < -1) = true from decide_eq_true hb) (ai (show decide (g.w1 >= vars) = false from nge h1) (ai (show decide (g.w1 < -1) = false from nlt h1) (ai (show decide (g.w0 >= vars) = false from nge h0) (ai (show decide (g.w0 < -1) = false from nlt h0) (ai (tN gs i g hg) (ai (show (i : Int) = ((i : Nat) : Int) /\ i < gs.length from ⟨rfl, hi⟩) (ai (show decide ((i : Int) < ((gs.length : Nat) : Int)) = true from decide_eq_true (by omega)) tt0))))))))
theorem aaT (gs : List GT) (pub vars : Int) (i : Nat) (g : GT) (hg : gs[i]? = some g) (h0 : ¬ bw vars g.w0) (h1 : ¬ bw vars g.w1) (ha : ¬ g.w2 < -1) (hb : g.w2 >= vars) : Sound prog 36 false (qc f106 0) (ccI gs pub vars (i : Int)).aa .ret (ccF gs pub vars (i : Int)).aa := by
 have hi := glt hg
 exact p9 (P := prog) (X := qa _) (env := []) trivial (n := 4) (os := oL ((Cv i g) ++ [(79, wF), (95, wF), (100, wF), (116, wF), (121, wT)])) (fb := 36) (rd := false) (c := (qc f106 0)) (k := 40) (I := ccI gs pub vars (i : Int)) (sk := [4]) (hk := [0, 4]) (lk := []) (ex := .ret)
  (L := ccF gs pub vars (i : Int)) (by kernel_rfl) (ai (show decide (g.w2 >= vars) = true from decide_eq_true hb) (ai (show decide (g.w2 < -1) = false from decide_eq_false ha) (ai (show decide (g.w1 >= vars) = false from nge h1) (ai (show decide (g.w1 < -1) = false from nlt h1) (ai (show decide (g.w0 >= vars) = false from nge h0) (ai (show decide (g.w0 < -1) = false from nlt h0) (ai (tN gs i g hg) (ai (show (i : Int) = ((i : Nat) : Int) /\ i < gs.length from ⟨rfl, hi⟩) (ai (show decide ((i : Int) < ((gs.length : Nat) : Int)) = true from decide_eq_true (by omega)) tt0)))))))))
theorem VA (gs : List GT) (pub vars : Int) (hm : gs.length <= 9223372036854775807) (i : Nat) (g : GT) (hg : gs[i]? = some g) (h0 : ¬ bw vars g.w0) (h1 : ¬ bw vars g.w1) (h2 : ¬ bw vars g.w2) : Sound prog 36 false (qc f106 0) (ccI gs pub vars (i : Int)).aa .normal (ccI gs pub vars ((i + 1 : Nat) : Int)).aa := by
 have hi := glt hg
 have hs := p9 (P := prog) (X := qa _) (env := []) trivial (n := 4) (os := oL [(40, wT), (46, rO 14 i), (47, { ch := 0, hi := fun _ => 0, ru := 8, cs := fun _ => gP g }), (74, wF), (79, wF), (95, wF), (100, wF), (116, wF), (121, wF)]) (fb := 36) (rd := false) (c := (qc f106 0)) (k := 40) (I := ccI gs pub vars (i : Int)) (sk := [0, 1, 7, 8]) (hk := [0, 4]) (lk := []) (ex := .normal)
  (L := ccI gs pub vars (IntKind.i64.wrap ((i : Int) + 1))) (by kernel_rfl) (ai (show decide (g.w2 >= vars) = false from nge h2) (ai (show decide (g.w2 < -1) = false from nlt h2) (ai (show decide (g.w1 >= vars) = false from nge h1) (ai (show decide (g.w1 < -1) = false from nlt h1) (ai (show decide (g.w0 >= vars) = false from nge h0) (ai (show decide (g.w0 < -1) = false from nlt h0) (ai (tN gs i g hg) (ai (show (i : Int) = ((i : Nat) : Int) /\ i < gs.length from ⟨rfl, hi⟩) (ai (show decide ((i : Int) < ((gs.length : Nat) : Int)) = true from decide_eq_true (by omega)) tt0)))))))))
 rw [show IntKind.i64.wrap ((i : Int) + 1) = ((i + 1 : Nat) : Int) by rw [qj]; omega] at hs
 exact hs
theorem WX (gs : List GT) (pub vars : Int) : Sound prog 36 false (qc f106 0) (ccI gs pub vars ((gs.length : Nat) : Int)).aa (.exit 0) (ccE gs pub vars).aa :=
 p9 (P := prog) (X := qa _) (env := []) trivial (n := 0) (os := oL [(40, wF)]) (fb := 36) (rd := false) (c := (qc f106 0)) (k := 40) (I := ccI gs pub vars ((gs.length : Nat) : Int)) (sk := []) (hk := [0, 4]) (lk := []) (ex := .exit 0)
  (L := ccE gs pub vars) (by kernel_rfl) (ai (show decide (((gs.length : Nat) : Int) < ((gs.length : Nat) : Int)) = false from decide_eq_false (by omega)) tt0)
theorem Xh (gs : List GT) (pub vars : Int) (i : Nat) (g : GT) (hg : gs[i]? = some g) (hb : ¬ okW vars g) : Sound prog 36 false (qc f106 0) (ccI gs pub vars (i : Int)).aa .ret (ccF gs pub vars (i : Int)).aa := by
 by_cases h0 : bw vars g.w0
 ·by_cases ha : g.w0 < -1
  ·exact aaZ gs pub vars i g hg ha
  ·exact Y8 gs pub vars i g hg ha (h0.resolve_left ha)
 by_cases h1 : bw vars g.w1
 ·by_cases ha : g.w1 < -1
  ·exact aat gs pub vars i g hg h0 ha
  ·exact aaV gs pub vars i g hg h0 ha (h1.resolve_left ha)
 by_cases h2 : bw vars g.w2
 ·by_cases ha : g.w2 < -1
  ·exact Zb gs pub vars i g hg h0 h1 ha
  ·exact aaT gs pub vars i g hg h0 h1 ha (h2.resolve_left ha)
 exact absurd ⟨h0, h1, h2⟩ hb
theorem Yh (gs : List GT) (pub vars : Int) (hm : gs.length <= 9223372036854775807) (hc : ∀ g, g ∈ gs -> okW vars g) : Sound prog 36 false (.loop (qc f106 0)) (ccI gs pub vars 0).aa (.exit 0) (ccE gs pub vars).aa := by
 refine qw (m := fun y : { i : Nat // i <= gs.length } => gs.length - y.val) (fun y => ccI gs pub vars (y.val : Int)) (by simp) (fun y => ?_) ⟨0, by omega⟩
 obtain ⟨i, hi⟩ := y
 by_cases e : i < gs.length
 ·obtain ⟨g, hg⟩ := gof e
  obtain ⟨h0, h1, h2⟩ := hc g (Mw hg)
  exact .inl ⟨⟨i + 1, e⟩, by show gs.length - (i + 1) < gs.length - i; omega, VA gs pub vars hm i g hg h0 h1 h2⟩
 ·have e : i = gs.length := by omega
  subst e
  exact .inr (WX gs pub vars)
theorem aai (gs : List GT) (pub vars : Int) (hm : gs.length <= 9223372036854775807) (j : Nat) (x : GT) (hj : gs[j]? = some x) (hx : ¬ okW vars x) (hp : ∀ (i : Nat) (y : GT), i < j -> gs[i]? = some y -> okW vars y) : Sound prog 36 false (.loop (qc f106 0)) (ccI gs pub vars 0).aa .ret (ccF gs pub vars (j : Int)).aa := by
 refine qw (m := fun y : { i : Nat // i <= j } => j - y.val) (fun y => ccI gs pub vars (y.val : Int)) (by simp) (fun y => ?_) ⟨0, by omega⟩
 obtain ⟨i, hi⟩ := y
 by_cases e : i < j
 ·obtain ⟨g, hg⟩ := gof (show i < gs.length by have := glt hj; omega)
  obtain ⟨h0, h1, h2⟩ := hp i g e hg
  exact .inl ⟨⟨i + 1, by omega⟩, by show j - (i + 1) < j - i; omega, VA gs pub vars hm i g hg h0 h1 h2⟩
 ·have e : i = j := by omega
  subst e
  exact .inr (Xh gs pub vars i x hj hx)
theorem Be {a : List XV} {r : AV} {b : Prop} (o : LO0) (hb : b) (h : fnA prog (qa _) [] 5 (oL o) f36 a = some (r, b) := by kernel_rfl) (hv : ∃ v, r.val? = some v := by exact ⟨_, rfl⟩) : Gives prog 36 a r := p6 (P := prog) (X := qa _) (env := []) trivial func36 5 (oL o) h hv hb
theorem adA (gs : List GT) (pub vars : Int) (h1 : ¬ gs.length <= 4096) : Gives prog 36 [.ags [.z [.l (gsC gs)] gs.length, .c (ci0 pub), .c (ci0 vars)]] (.v (.bool false)) :=
 Be [(9, wT)] (ai (show decide (((gs.length : Nat) : Int) > 4096) = true from decide_eq_true (by omega)) tt0)
def OV {gs : List GT} (h1 : gs.length <= 4096) := PLift.up (ai (show decide (((gs.length : Nat) : Int) > 4096) = false from decide_eq_false (by omega)) tt0)
theorem ad5 (gs : List GT) (pub vars : Int) (h1 : gs.length <= 4096) (h2 : ¬ 0 <= pub) : Gives prog 36 [.ags [.z [.l (gsC gs)] gs.length, .c (ci0 pub), .c (ci0 vars)]] (.v (.bool false)) :=
 Be [(9, wF), (13, wT)] (ai (show decide (pub < 0) = true from decide_eq_true (by omega))
   (OV h1).down)
theorem adX (gs : List GT) (pub vars : Int) (h1 : gs.length <= 4096) (h2 : 0 <= pub) (h3 : ¬ pub <= gs.length) : Gives prog 36 [.ags [.z [.l (gsC gs)] gs.length, .c (ci0 pub), .c (ci0 vars)]] (.v (.bool false)) :=
 Be [(9, wF), (13, wF), (21, wT)] (ai (show decide (pub > ((gs.length : Nat) : Int)) = true from decide_eq_true (by omega)) (ai (show decide (pub < 0) = false from decide_eq_false (by omega))
   (OV h1).down))
def Of {gs : List GT} {pub : Int} (h1 : gs.length <= 4096) (h2 : 0 <= pub) (h3 : pub <= gs.length) := PLift.up (ai (show decide (pub > ((gs.length : Nat) : Int)) = false from decide_eq_false (by omega)) (ai (show decide (pub < 0) = false from decide_eq_false (by omega))
   (OV h1).down))
theorem aea (gs : List GT) (pub vars : Int) (h1 : gs.length <= 4096) (h2 : 0 <= pub) (h3 : pub <= gs.length) (h4 : ¬ 0 <= vars) : Gives prog 36 [.ags [.z [.l (gsC gs)] gs.length, .c (ci0 pub), .c (ci0 vars)]] (.v (.bool false)) :=
 Be [(9, wF), (13, wF), (21, wF), (26, wT)] (ai (show decide (vars < 0) = true from decide_eq_true (by omega))
   (Of h1 h2 h3).down)
theorem acY (gs : List GT) (pub vars : Int) (hm : gs.length <= 9223372036854775807) (hc : ∀ g, g ∈ gs -> okW vars g) (h1 : gs.length <= 4096) (h2 : 0 <= pub) (h3 : pub <= gs.length) (h4 : 0 <= vars) : Gives prog 36 [.ags [.z [.l (gsC gs)] gs.length, .c (ci0 pub), .c (ci0 vars)]] (.v (.bool true)) :=
 Be [(9, wF), (13, wF), (21, wF), (26, wF), (40, lpO { I := ccI gs pub vars 0, ex := .exit 0, E := ccE gs pub vars, fr := 41 })] (ai (show some (ccI gs pub vars 0) = some (ccI gs pub vars 0) from rfl) (ai (Yh gs pub vars hm hc) (ai (show decide (vars < 0) = false from decide_eq_false (by omega))
   (Of h1 h2 h3).down)))
theorem adb (gs : List GT) (pub vars : Int) (hm : gs.length <= 9223372036854775807) (h1 : gs.length <= 4096) (h2 : 0 <= pub) (h3 : pub <= gs.length) (h4 : 0 <= vars) (j : Nat) (x : GT) (hj : gs[j]? = some x) (hx : ¬ okW vars x) (hp : ∀ (i : Nat) (y : GT), i < j -> gs[i]? = some y -> okW vars y) : Gives prog 36 [.ags [.z [.l (gsC gs)] gs.length, .c (ci0 pub), .c (ci0 vars)]] (.v (.bool false)) :=
 Be [(9, wF), (13, wF), (21, wF), (26, wF), (40, lpO { I := ccI gs pub vars 0, ex := .ret, E := ccF gs pub vars (j : Int), fr := 41 }), (41, wT)] (ai (show decide ((j : Int) >= 0) = true from decide_eq_true (by omega)) (ai (show some (ccI gs pub vars 0) = some (ccI gs pub vars 0) from rfl) (ai (aai gs pub vars hm j x hj hx hp) (ai (show decide (vars < 0) = false from decide_eq_false (by omega))
   (Of h1 h2 h3).down))))
theorem Og (gs : List GT) (pub vars : Int) (h : tl gs pub vars) : Gives prog 36 [.ags [.z [.l (gsC gs)] gs.length, .c (ci0 pub), .c (ci0 vars)]] (.v (.bool true)) :=
 acY gs pub vars (by have := h.1; omega) h.2.2.2.2 h.1 h.2.1 h.2.2.1 h.2.2.2.1
theorem ZS (gs : List GT) (pub vars : Int) (h : ¬ tl gs pub vars) : Gives prog 36 [.ags [.z [.l (gsC gs)] gs.length, .c (ci0 pub), .c (ci0 vars)]] (.v (.bool false)) := by
 by_cases h1 : gs.length <= 4096
 ·by_cases h2 : 0 <= pub
  ·by_cases h3 : pub <= gs.length
   ·by_cases h4 : 0 <= vars
    ·rcases G4 vars gs with hc | ⟨j, x, e1, e2, e3⟩
     ·exact absurd ⟨h1, h2, h3, h4, hc⟩ h
     ·exact adb gs pub vars (by omega) h1 h2 h3 h4 j x e1 e2 e3
    ·exact aea gs pub vars h1 h2 h3 h4
   ·exact adX gs pub vars h1 h2 h3
  ·exact ad5 gs pub vars h1 h2
 ·exact adA gs pub vars h1
end Go.Proofs.YtokjhbmmdmeafaaGreat
set_option linter.unusedSimpArgs false
set_option linter.unusedVariables false
namespace Go.Proofs.YtokjhbmmdmeafaaGreat
open Go.Ev Go.RowKit
open Tryz
def gN (g : GT) : List Nat := [g.q0, g.q1, g.q2, g.q3, g.q4]
def smG (g : GT) : Prop := sm4 (gN g)
def rZ (g : GT) : Prop := re (gN g)
instance (g : GT) : Decidable (rZ g) := inferInstanceAs (Decidable (re _))
def gS (g : GT) : LU0 := (((qL g.q0 ++ qL g.q1) ++ qL g.q2) ++ qL g.q3) ++ qL g.q4
def gB (g : GT) : LU0 := gS g ++ (b4 .i64 g.w0 ++ (b4 .i64 g.w1 ++ b4 .i64 g.w2))
theorem EB (g : GT) : (gS g).length = 160 := by unfold gS; simp [rB]
theorem yq (g : GT) : (gB g).length = 172 := by unfold gB; simp [EB, A6]
def hdC (gs : List GT) (pub vars : Int) : LU0 := (b4 .i64 (gs.length : Nat) ++ b4 .i64 pub) ++ b4 .i64 vars
def hdU (gs : List GT) (pub vars : Int) : LU0 := (b4 .u32 (IntKind.u32.wrap (gs.length : Nat)) ++ b4 .u32 (IntKind.u32.wrap pub)) ++ b4 .u32 (IntKind.u32.wrap vars)
theorem Qu (gs : List GT) (pub vars : Int) : hdU gs pub vars = hdC gs pub vars := by unfold hdU hdC; rw [xI, xI, xI]
def mgC : LU0 := [67, 72, 67, 49]
def qZ (gs : List GT) (pub vars : Int) (i : Nat) : LU0 := (mgC ++ hdC gs pub vars) ++ (gs.take i).flatMap gB
theorem vL (gs : List GT) (pub vars : Int) (i : Nat) : (qZ gs pub vars i).length <= 16 + 172 * gs.length := by
 have : ∀ l : List GT, (l.flatMap gB).length = 172 * l.length := fun l => by
  induction l with
  | nil => rfl
  | cons g l ih => simp only [List.flatMap_cons, List.length_append, yq, ih, List.length_cons]; omega
 unfold qZ
 simp only [List.length_append, this, List.length_take]
 have h1 : (hdC gs pub vars).length = 12 := rfl
 have h2 : mgC.length = 4 := rfl
 omega
theorem Ee {gs : List GT} {pub vars : Int} {i : Nat} {g : GT} (h : gs[i]? = some g) : qZ gs pub vars (i + 1) = qZ gs pub vars i ++ gB g := by
 unfold qZ
 rw [List.take_add_one, h]
 simp
def pcI (gs : List GT) (pub vars : Int) (out : LU0) (z : Int) : LState := { n := 92, sl := [(1, .p 4 0), (4, .p 20 0), (36, .sz 0 gs.length), (37, vi0 ((gs.length : Nat) : Int)), (38, vi0 z)], hp := [(0, .rz [.l (gsC gs)]), (4, .own [.sz 0 gs.length, ci0 pub, ci0 vars] 49), (20, .own [.sx 56 out.length, ci0 0] 159), (56, .gr [.y out] 5 1)] }
def pcJ (gs : List GT) (pub vars : Int) : LState := { n := 92, sl := [(1, .p 4 0), (4, .p 20 0), (36, .sz 0 gs.length), (37, vi0 ((gs.length : Nat) : Int)), (38, vi0 0)], hp := [(0, .rz [.l (gsC gs)]), (4, .own [.sz 0 gs.length, ci0 pub, ci0 vars] 49), (20, .own [.sx 56 (4 + (ofL (hdU gs pub vars)).size), ci0 0] 159), (56, .gr [.y mgC, .y (hdU gs pub vars)] 5 1)] }
def pcE (out : LU0) : LState := { n := 92, sl := [(4, .p 20 0)], hp := [(20, .own [.sx 56 out.length, ci0 0] 159), (56, .gr [.y out] 5 1)] }
def pcF : LState := { n := 92, sl := [(2, .v (.string (ofL []))), (3, vi0 1)], hp := [] }
theorem DY (gs : List GT) (pub vars : Int) : qZ gs pub vars 0 = mgC ++ hdC gs pub vars := by unfold qZ; simp
theorem Tg (gs : List GT) (pub vars : Int) : 4 + (ofL (hdU gs pub vars)).size = (qZ gs pub vars 0).length := by rw [DY, Qu]; rfl
theorem si (l : LU0) : flat [.y l] = l.map rf := by simp [flat, Ch.cells]
theorem ON (gs : List GT) (pub vars : Int) : flat [.y mgC, .y (hdU gs pub vars)] = flat [.y (qZ gs pub vars 0)] := by
 rw [DY, Qu, si]; simp [flat, Ch.cells]
theorem RC (gs : List GT) (pub vars : Int) : so (pcJ gs pub vars).aa (pcI gs pub vars (qZ gs pub vars 0) ((0 : Nat) : Int)) [] := by
 have e : so (pcJ gs pub vars).aa (pcI gs pub vars (qZ gs pub vars 0) ((0 : Nat) : Int)) [] = (((Lq 0) /\ (Lq 0) /\ (true = true /\ gs.length = gs.length) /\ (Value.int .i64 ((gs.length : Nat) : Int)) = (Value.int .i64 ((gs.length : Nat) : Int)) /\ (Value.int .i64 0) = (Value.int .i64 ((0 : Nat) : Int)) /\ True) /\ (flat [.l (gsC gs)] = flat [.l (gsC gs)] /\ (49 = 49 /\ (true = true /\ gs.length = gs.length) /\ (DU (.int .i64 pub)) /\ (DU (.int .i64 vars)) /\ True) /\ (159 = 159 /\ (true = true /\ 4 + (ofL (hdU gs pub vars)).size = (qZ gs pub vars 0).length) /\ (DU (.int .i64 0)) /\ True) /\ ((5 = 5 /\ 1 = 1) /\ flat [.y mgC, .y (hdU gs pub vars)] = flat [.y (qZ gs pub vars 0)]) /\ True)) := by kernel_rfl
 rw [e]
 exact ⟨⟨rr0, rr0, rr0, rfl, rfl, tt0⟩, ⟨rfl, ⟨rfl, rr0, r30, r30, tt0⟩, ⟨rfl, ⟨rfl, Tg gs pub vars⟩, r30, tt0⟩, ⟨rr0, ON gs pub vars⟩, tt0⟩⟩
theorem PM (g : GT) : (ofL (gS g)).size = 160 := EB g
theorem wA (w : Int) : (ofL (b4 .u32 (IntKind.u32.wrap w))).size = 4 := rfl
theorem Lf (g : GT) : (gS g).length = (ofL (gS g)).size := rfl
theorem KC (w : Int) : (b4 .u32 (IntKind.u32.wrap w)).length = (ofL (b4 .u32 (IntKind.u32.wrap w))).size := rfl
theorem UN (gs : List GT) (pub vars : Int) (i : Nat) (g : GT) (hg : gs[i]? = some g) : (qZ gs pub vars i).length + (ofL (gS g)).size + (ofL (b4 .u32 (IntKind.u32.wrap g.w0))).size + (ofL (b4 .u32 (IntKind.u32.wrap g.w1))).size + (ofL (b4 .u32 (IntKind.u32.wrap g.w2))).size = (qZ gs pub vars (i + 1)).length := by
 rw [Ee hg, List.length_append, yq, PM, wA, wA, wA]
theorem Ps (gs : List GT) (pub vars : Int) (i : Nat) (g : GT) (hg : gs[i]? = some g) : flat [.y (qZ gs pub vars i), .y (gS g), .y (b4 .u32 (IntKind.u32.wrap g.w0)), .y (b4 .u32 (IntKind.u32.wrap g.w1)), .y (b4 .u32 (IntKind.u32.wrap g.w2))] = flat [.y (qZ gs pub vars (i + 1))] := by
 rw [Ee hg, si]
 unfold gB
 rw [← xI g.w0, ← xI g.w1, ← xI g.w2]
 simp [flat, Ch.cells]
def K6 : Ora := { ch := 0, hi := fun _ => 0, ex := 1 }
abbrev Jp (a : AA) (e : Ex) (b : AA) : Prop := Sound prog 0 false (qc f18 0) a e b
theorem Hh (gs : List GT) (pub vars : Int) (hm : gs.length <= 4096) (i : Nat) (g : GT) (hg : gs[i]? = some g) (hs : smG g) (hc : rZ g) : Jp (pcI gs pub vars (qZ gs pub vars i) (i : Int)).aa .normal (pcI gs pub vars (qZ gs pub vars (i + 1)) ((i + 1 : Nat) : Int)).aa := by
 have hi := glt hg
 exact rh (P := prog) (X := qa _) (env := [uQ, uE, wo]) ⟨vi, ue, uv, tt0⟩ (n := 1) (os := oL [(64, wT), (65, rO 14 i), (66, (Lk g)), (80, wO 0), (89, rO 6 0), (93, rO 6 0), (97, rO 6 0), (101, rO 6 0), (119, K6), (150, K6), (180, K6), (210, K6)]) (fb := 0) (rd := false) (c := (qc f18 0)) (k := 64) (I := pcI gs pub vars (qZ gs pub vars i) (i : Int)) (J := pcI gs pub vars (qZ gs pub vars (i + 1)) ((i + 1 : Nat) : Int)) (τ := [(56, 210)]) (ex := .normal) (by kernel_rfl) (ai (show ((Lq 0) /\ (Lq 0) /\ (true = true /\ gs.length = gs.length) /\ (Value.int .i64 ((gs.length : Nat) : Int)) = (Value.int .i64 ((gs.length : Nat) : Int)) /\ (Value.int .i64 (IntKind.i64.wrap ((i : Int) + 1))) = (Value.int .i64 ((i + 1 : Nat) : Int)) /\ True) /\ (flat [.l (gsC gs)] = flat [.l (gsC gs)] /\ (49 = 49 /\ (true = true /\ gs.length = gs.length) /\ (DU (.int .i64 pub)) /\ (DU (.int .i64 vars)) /\ True) /\ (159 = 159 /\ (true = true /\ (qZ gs pub vars i).length + (ofL (gS g)).size + (ofL (b4 .u32 (IntKind.u32.wrap g.w0))).size + (ofL (b4 .u32 (IntKind.u32.wrap g.w1))).size + (ofL (b4 .u32 (IntKind.u32.wrap g.w2))).size = (qZ gs pub vars (i + 1)).length) /\ (DU (.int .i64 0)) /\ True) /\ ((5 = 5 /\ 1 = 1) /\ flat [.y (qZ gs pub vars i), .y (gS g), .y (b4 .u32 (IntKind.u32.wrap g.w0)), .y (b4 .u32 (IntKind.u32.wrap g.w1)), .y (b4 .u32 (IntKind.u32.wrap g.w2))] = flat [.y (qZ gs pub vars (i + 1))]) /\ True) from ⟨⟨rr0, rr0, rr0, rfl, by rw [show IntKind.i64.wrap ((i : Int) + 1) = ((i + 1 : Nat) : Int) by rw [qj]; omega], tt0⟩, ⟨rfl, ⟨rfl, rr0, r30, r30, tt0⟩, ⟨rfl, ⟨rfl, UN gs pub vars i g hg⟩, r30, tt0⟩, ⟨rr0, Ps gs pub vars i g hg⟩, tt0⟩⟩) (ai (show qq [.y (qZ gs pub vars i), .y (gS g), .y (b4 .u32 (IntKind.u32.wrap g.w0)), .y (b4 .u32 (IntKind.u32.wrap g.w1))] = ((qZ gs pub vars i).length + (ofL (gS g)).size + (ofL (b4 .u32 (IntKind.u32.wrap g.w0))).size + (ofL (b4 .u32 (IntKind.u32.wrap g.w1))).size) * 1 /\ (qZ gs pub vars i).length + (ofL (gS g)).size + (ofL (b4 .u32 (IntKind.u32.wrap g.w0))).size + (ofL (b4 .u32 (IntKind.u32.wrap g.w1))).size + (ofL (b4 .u32 (IntKind.u32.wrap g.w2))).size <= 9223372036854775807 /\ ((qZ gs pub vars i).length + (ofL (gS g)).size + (ofL (b4 .u32 (IntKind.u32.wrap g.w0))).size + (ofL (b4 .u32 (IntKind.u32.wrap g.w1))).size + (ofL (b4 .u32 (IntKind.u32.wrap g.w2))).size) * 1 <= 140737488355328 /\ True from by
    have h1 := vL gs pub vars i
    have h2 := PM g
    have h3 := wA g.w0
    have h4 := wA g.w1
    have h5 := wA g.w2
    refine ⟨?_, ?_, ?_, tt0⟩ <;> (try simp only [qq, Ch.size, Lf, KC]) <;> omega) (ai (show qq [.y (qZ gs pub vars i), .y (gS g), .y (b4 .u32 (IntKind.u32.wrap g.w0))] = ((qZ gs pub vars i).length + (ofL (gS g)).size + (ofL (b4 .u32 (IntKind.u32.wrap g.w0))).size) * 1 /\ (qZ gs pub vars i).length + (ofL (gS g)).size + (ofL (b4 .u32 (IntKind.u32.wrap g.w0))).size + (ofL (b4 .u32 (IntKind.u32.wrap g.w1))).size <= 9223372036854775807 /\ ((qZ gs pub vars i).length + (ofL (gS g)).size + (ofL (b4 .u32 (IntKind.u32.wrap g.w0))).size + (ofL (b4 .u32 (IntKind.u32.wrap g.w1))).size) * 1 <= 140737488355328 /\ True from by
    have h1 := vL gs pub vars i
    have h2 := PM g
    have h3 := wA g.w0
    have h4 := wA g.w1
    have h5 := wA g.w2
    refine ⟨?_, ?_, ?_, tt0⟩ <;> (try simp only [qq, Ch.size, Lf, KC]) <;> omega) (ai (show qq [.y (qZ gs pub vars i), .y (gS g)] = ((qZ gs pub vars i).length + (ofL (gS g)).size) * 1 /\ (qZ gs pub vars i).length + (ofL (gS g)).size + (ofL (b4 .u32 (IntKind.u32.wrap g.w0))).size <= 9223372036854775807 /\ ((qZ gs pub vars i).length + (ofL (gS g)).size + (ofL (b4 .u32 (IntKind.u32.wrap g.w0))).size) * 1 <= 140737488355328 /\ True from by
    have h1 := vL gs pub vars i
    have h2 := PM g
    have h3 := wA g.w0
    have h4 := wA g.w1
    have h5 := wA g.w2
    refine ⟨?_, ?_, ?_, tt0⟩ <;> (try simp only [qq, Ch.size, Lf, KC]) <;> omega) (ai (show qq [.y (qZ gs pub vars i)] = ((qZ gs pub vars i).length) * 1 /\ (qZ gs pub vars i).length + (ofL (gS g)).size <= 9223372036854775807 /\ ((qZ gs pub vars i).length + (ofL (gS g)).size) * 1 <= 140737488355328 /\ True from by
    have h1 := vL gs pub vars i
    have h2 := PM g
    have h3 := wA g.w0
    have h4 := wA g.w1
    have h5 := wA g.w2
    refine ⟨?_, ?_, ?_, tt0⟩ <;> (try simp only [qq, Ch.size, Lf, KC]) <;> omega) (ai (show (ofL ((((qL g.q0 ++ qL g.q1) ++ qL g.q2) ++ qL g.q3))).size + (ofL (qL g.q4)).size <= 9223372036854775807 from by show ((((qL g.q0 ++ qL g.q1) ++ qL g.q2) ++ qL g.q3)).length + (qL g.q4).length <= _; simp [rB]) (ai (show DH (.inr g.q4) from hs g.q4 (by simp [gN])) (ai (show (ofL (((qL g.q0 ++ qL g.q1) ++ qL g.q2))).size + (ofL (qL g.q3)).size <= 9223372036854775807 from by show (((qL g.q0 ++ qL g.q1) ++ qL g.q2)).length + (qL g.q3).length <= _; simp [rB]) (ai (show DH (.inr g.q3) from hs g.q3 (by simp [gN])) (ai (show (ofL ((qL g.q0 ++ qL g.q1))).size + (ofL (qL g.q2)).size <= 9223372036854775807 from by show ((qL g.q0 ++ qL g.q1)).length + (qL g.q2).length <= _; simp [rB]) (ai (show DH (.inr g.q2) from hs g.q2 (by simp [gN])) (ai (show (ofL (qL g.q0)).size + (ofL (qL g.q1)).size <= 9223372036854775807 from by show (qL g.q0).length + (qL g.q1).length <= _; simp [rB]) (ai (show DH (.inr g.q1) from hs g.q1 (by simp [gN])) (ai (show DH (.inr g.q0) from hs g.q0 (by simp [gN])) (ai (show [g.q0, g.q1, g.q2, g.q3, g.q4].length <= 1000000 /\ sm4 [g.q0, g.q1, g.q2, g.q3, g.q4] /\ re [g.q0, g.q1, g.q2, g.q3, g.q4] from ⟨by simp, hs, hc⟩) (ai (tN gs i g hg) (ai (show (i : Int) = ((i : Nat) : Int) /\ i < gs.length from ⟨rfl, hi⟩) (ai (show decide ((i : Int) < ((gs.length : Nat) : Int)) = true from decide_eq_true (by omega)) tt0))))))))))))))))))
theorem Xy (gs : List GT) (pub vars : Int) (out : LU0) (i : Nat) (g : GT) (hg : gs[i]? = some g) (hs : smG g) (hc : ¬ rZ g) : Jp (pcI gs pub vars out (i : Int)).aa .ret pcF.aa := by
 have hi := glt hg
 exact p9 (P := prog) (X := qa _) (env := [uQ, uE, wo]) ⟨vi, ue, uv, tt0⟩ (n := 1) (os := oL [(64, wT), (65, rO 14 i), (66, (Lk g)), (80, wO 1)]) (fb := 0) (rd := false) (c := (qc f18 0)) (k := 64) (I := pcI gs pub vars out (i : Int)) (sk := [2, 3]) (hk := []) (lk := []) (ex := .ret) (L := pcF) (by kernel_rfl) (ai (show [g.q0, g.q1, g.q2, g.q3, g.q4].length <= 1000000 /\ sm4 [g.q0, g.q1, g.q2, g.q3, g.q4] /\ ¬ re [g.q0, g.q1, g.q2, g.q3, g.q4] from ⟨by simp, hs, hc⟩) (ai (tN gs i g hg) (ai (show (i : Int) = ((i : Nat) : Int) /\ i < gs.length from ⟨rfl, hi⟩) (ai (show decide ((i : Int) < ((gs.length : Nat) : Int)) = true from decide_eq_true (by omega)) tt0))))
theorem W0 (gs : List GT) (pub vars : Int) (out : LU0) : Jp (pcI gs pub vars out ((gs.length : Nat) : Int)).aa (.exit 0) (pcE out).aa :=
 p9 (P := prog) (X := qa _) (env := []) trivial (n := 0) (os := oL [(64, wF)]) (fb := 0) (rd := false) (c := (qc f18 0)) (k := 64) (I := pcI gs pub vars out ((gs.length : Nat) : Int)) (sk := [4]) (hk := [20, 56]) (lk := []) (ex := .exit 0)
  (L := pcE out) (by kernel_rfl) (ai (show decide (((gs.length : Nat) : Int) < ((gs.length : Nat) : Int)) = false from decide_eq_false (by omega)) tt0)
theorem W4 (gs : List GT) (pub vars : Int) (hm : gs.length <= 4096) (hs : ∀ g, g ∈ gs -> smG g) (hc : ∀ g, g ∈ gs -> rZ g) : Sound prog 0 false (.loop (qc f18 0)) (pcI gs pub vars (qZ gs pub vars 0) ((0 : Nat) : Int)).aa (.exit 0) (pcE (qZ gs pub vars gs.length)).aa := by
 refine qw (m := fun y : { i : Nat // i <= gs.length } => gs.length - y.val) (fun y => pcI gs pub vars (qZ gs pub vars y.val) (y.val : Int)) (by simp) (fun y => ?_) ⟨0, by omega⟩
 obtain ⟨i, hi⟩ := y
 by_cases e : i < gs.length
 ·obtain ⟨g, hg⟩ := gof e
  exact .inl ⟨⟨i + 1, e⟩, by show gs.length - (i + 1) < gs.length - i; omega, Hh gs pub vars hm i g hg (hs g (Mw hg)) (hc g (Mw hg))⟩
 ·have e : i = gs.length := by omega
  subst e
  exact .inr (W0 gs pub vars _)
theorem C6 : ∀ gs : List GT, (∀ g, g ∈ gs -> rZ g) ∨ ∃ (j : Nat) (g : GT), gs[j]? = some g /\ ¬ rZ g /\ ∀ (i : Nat) (y : GT), i < j -> gs[i]? = some y -> rZ y
 | [] => .inl (fun x hx => by cases hx)
 | n :: ns => by
  by_cases h : rZ n
  ·rcases C6 ns with h1 | ⟨j, x, h1, h2, h3⟩
   ·exact .inl (fun x hx => by rcases List.mem_cons.1 hx with rfl | hx; exact h; exact h1 x hx)
   ·refine .inr ⟨j + 1, x, h1, h2, fun i y hi hy => ?_⟩
    match i, hy with
    | 0, hy => simp only [List.getElem?_cons_zero, oi0] at hy; subst hy; exact h
    | i + 1, hy => exact h3 i y (by omega) (by simpa using hy)
  ·exact .inr ⟨0, n, rfl, h, fun i y hi => by omega⟩
theorem aa6 (gs : List GT) (pub vars : Int) (hm : gs.length <= 4096) (hs : ∀ g, g ∈ gs -> smG g) (j : Nat) (x : GT) (hj : gs[j]? = some x) (hx : ¬ rZ x) (hp : ∀ (i : Nat) (y : GT), i < j -> gs[i]? = some y -> rZ y) : Sound prog 0 false (.loop (qc f18 0)) (pcI gs pub vars (qZ gs pub vars 0) ((0 : Nat) : Int)).aa .ret pcF.aa := by
 refine qw (m := fun y : { i : Nat // i <= j } => j - y.val) (fun y => pcI gs pub vars (qZ gs pub vars y.val) (y.val : Int)) (by simp) (fun y => ?_) ⟨0, by omega⟩
 obtain ⟨i, hi⟩ := y
 by_cases e : i < j
 ·obtain ⟨g, hg⟩ := gof (show i < gs.length by have := glt hj; omega)
  exact .inl ⟨⟨i + 1, by omega⟩, by show j - (i + 1) < j - i; omega, Hh gs pub vars hm i g hg (hs g (Mw hg)) (hp i g e hg)⟩
 ·have e : i = j := by omega
  subst e
  exact .inr (Xy gs pub vars _ i x hj (hs x (Mw hj)) hx)
abbrev JK : AV := .tp [.v (.string (ofL [])), vi0 1]
theorem FM {a : List XV} {r : AV} {b : Prop} (o : LO0) (hb : b) (h : fnA prog (qa _) [uQ, uE, wo] 1 (oL o) f18 a = some (r, b) := by kernel_rfl) (hv : ∃ v, r.val? = some v := by exact ⟨_, rfl⟩) : Gives prog 18 a r := p6 (P := prog) (X := qa _) (env := [uQ, uE, wo]) ⟨vi, ue, uv, tt0⟩ func18 1 (oL o) h hv hb
theorem acz (gs : List GT) (pub vars : Int) (h : ¬ tl gs pub vars) : Gives prog 18 [.ags [.z [.l (gsC gs)] gs.length, .c (ci0 pub), .c (ci0 vars)]] JK :=
 FM [(8, { ch := 0, hi := fun _ => 0, ex := 7, av := fun _ => .v (.bool false) })] (ai (show qN prog 36 [.ags [.z [.l (gsC gs)] gs.length, .c (ci0 pub), .c (ci0 vars)]] (.v (.bool false)) from ⟨fun vs w => Go.Proofs.enters_of (P := prog) func36 (by kernel_rfl) rfl vs w, ZS gs pub vars h⟩) tt0)
def Vy (gs : List GT) (pub : Int) (vars : Int) (h : tl gs pub vars) := PLift.up (ai (show qN prog 36 [.ags [.z [.l (gsC gs)] gs.length, .c (ci0 pub), .c (ci0 vars)]] (.v (.bool true)) from ⟨fun vs w => Go.Proofs.enters_of (P := prog) func36 (by kernel_rfl) rfl vs w, Og gs pub vars h⟩) tt0)
def Pb : Nat × Ora := (8, { ch := 0, hi := fun _ => 0, ex := 7, av := fun _ => .v (.bool true) })
theorem aci (gs : List GT) (pub vars : Int) (h : tl gs pub vars) (hv : vars > 2147483647) : Gives prog 18 [.ags [.z [.l (gsC gs)] gs.length, .c (ci0 pub), .c (ci0 vars)]] JK :=
 FM [Pb, (13, wT)] (ai (show decide (vars > 2147483647) = true from decide_eq_true hv)
   (Vy gs pub vars h).down)
def Wr (gs : List GT) (pub : Int) {vars : Int} (h : tl gs pub vars) (hv : ¬ vars > 2147483647) := PLift.up (ai (show (ofL (b4 .u32 (IntKind.u32.wrap (gs.length : Nat)))).size + (ofL (b4 .u32 (IntKind.u32.wrap pub))).size <= 9223372036854775807 from by rw [wA, wA]; decide) (ai (show flat [.y mgC] = (ofL mgC).data.toList.map rf from si mgC) (ai (show decide (vars > 2147483647) = false from decide_eq_false hv)
   (Vy gs pub vars h).down)))
def Re : Nat × Ora := (18, { ch := 0, hi := fun _ => 0, ex := 2, cs := fun _ => [.y mgC] })
theorem aaq (gs : List GT) (pub vars : Int) (h : tl gs pub vars) (hv : ¬ vars > 2147483647) (hs : ∀ g, g ∈ gs -> smG g) (j : Nat) (x : GT) (hj : gs[j]? = some x) (hx : ¬ rZ x) (hp : ∀ (i : Nat) (y : GT), i < j -> gs[i]? = some y -> rZ y) : Gives prog 18 [.ags [.z [.l (gsC gs)] gs.length, .c (ci0 pub), .c (ci0 vars)]] JK :=
 FM [Pb, (13, wF), Re, (33, rO 6 0), (38, rO 6 0), (64, lpO { I := pcJ gs pub vars, ex := .ret, E := pcF, fr := 65 })] (ai (show some (pcJ gs pub vars) = some (pcJ gs pub vars) from rfl) (ai ((aa6 gs pub vars h.1 hs j x hj hx hp).pre [] (by kernel_rfl) (RC gs pub vars)) (ai (show (ofL (b4 .u32 (IntKind.u32.wrap (gs.length : Nat)) ++ b4 .u32 (IntKind.u32.wrap pub))).size + (ofL (b4 .u32 (IntKind.u32.wrap vars))).size <= 9223372036854775807 from by rw [wA]; show 8 + 4 <= _; decide)
   (Wr gs pub h hv).down)))
theorem Zq (gs : List GT) (pub vars : Int) (h : tl gs pub vars) (hv : ¬ vars > 2147483647) (hs : ∀ g, g ∈ gs -> smG g) (hc : ∀ g, g ∈ gs -> rZ g) : Gives prog 18 [.ags [.z [.l (gsC gs)] gs.length, .c (ci0 pub), .c (ci0 vars)]] (.tp [.v (.string (ofL (qZ gs pub vars gs.length))), vi0 0]) :=
 FM [Pb, (13, wF), Re, (33, rO 6 0), (38, rO 6 0), (64, lpO { I := pcJ gs pub vars, ex := .exit 0, E := pcE (qZ gs pub vars gs.length), fr := 65 }), (78, { ch := 0, hi := fun _ => 0, ru := 10, av := fun _ => .v (.string (ofL (qZ gs pub vars gs.length))) })] (ai (show (flat [.y (qZ gs pub vars gs.length)]).take (qZ gs pub vars gs.length).length = (ofL (qZ gs pub vars gs.length)).data.toList.map rf /\ (qZ gs pub vars gs.length).length = (ofL (qZ gs pub vars gs.length)).size from ⟨by rw [si, List.take_of_length_le (by simp)]; rfl, rfl⟩) (ai (show some (pcJ gs pub vars) = some (pcJ gs pub vars) from rfl) (ai ((W4 gs pub vars h.1 hs hc).pre [] (by kernel_rfl) (RC gs pub vars)) (ai (show (ofL (b4 .u32 (IntKind.u32.wrap (gs.length : Nat)) ++ b4 .u32 (IntKind.u32.wrap pub))).size + (ofL (b4 .u32 (IntKind.u32.wrap vars))).size <= 9223372036854775807 from by rw [wA]; show 8 + 4 <= _; decide)
   (Wr gs pub h hv).down))))
end Go.Proofs.YtokjhbmmdmeafaaGreat
