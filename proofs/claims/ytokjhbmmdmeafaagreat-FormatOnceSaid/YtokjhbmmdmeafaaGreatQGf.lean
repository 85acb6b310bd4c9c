/- Pruned: Gf. -/
import Derived.Test.YtokjhbmmdmeafaaGreatQHb
import Derived.Test.YtokjhbmmdmeafaaGreatQHe
import Derived.Test.YtokjhbmmdmeafaaGreatQGb
import Derived.Test.YtokjhbmmdmeafaaGreatQGa
set_option linter.unusedSimpArgs false
set_option linter.unusedVariables false
namespace Go.Proofs.YtokjhbmmdmeafaaGreat
open Go.Ev Go.RowKit
open Tryz
abbrev Ej (v : Value) : Prop := true = true /\ true = true /\ [v] = [v]
abbrev Lx (n : Nat) : Prop := true = true /\ n = n
abbrev QN (a : Nat) : Prop := a < 115792089237316195423570985008687907853269984665640564039457584007913129639936
theorem Ni (a : Nat) (ha : QN a) (h : a < 52435875175126190479447740508185965837690552500527637822603658699938581184513) : Gives prog 68 [.t (.ag [.n 4 a])] (.v (.bool true)) :=
 pI (P := prog) (env := [LX, eRS]) ⟨CP, zu, tt0⟩ func68 0 (oN [] [(7, 0)]) (by kernel_rfl) (ai (show a < 115792089237316195423570985008687907853269984665640564039457584007913129639936 /\ 52435875175126190479447740508185965837690552500527637822603658699938581184513 < 115792089237316195423570985008687907853269984665640564039457584007913129639936 /\ a < 52435875175126190479447740508185965837690552500527637822603658699938581184513 from ⟨ha, by decide, h⟩) tt0)
theorem No (a : Nat) (ha : QN a) (h : a = 52435875175126190479447740508185965837690552500527637822603658699938581184513) : Gives prog 68 [.t (.ag [.n 4 a])] (.v (.bool false)) :=
 pI (P := prog) (env := [LX, eRS]) ⟨CP, zu, tt0⟩ func68 0 (oN [] [(7, 1)]) (by kernel_rfl) (ai (show a < 115792089237316195423570985008687907853269984665640564039457584007913129639936 /\ 52435875175126190479447740508185965837690552500527637822603658699938581184513 < 115792089237316195423570985008687907853269984665640564039457584007913129639936 /\ a = 52435875175126190479447740508185965837690552500527637822603658699938581184513 from ⟨ha, by decide, h⟩) tt0)
theorem Ny (a : Nat) (ha : QN a) (h : 52435875175126190479447740508185965837690552500527637822603658699938581184513 < a) : Gives prog 68 [.t (.ag [.n 4 a])] (.v (.bool false)) :=
 pI (P := prog) (env := [LX, eRS]) ⟨CP, zu, tt0⟩ func68 0 (oN [] [(7, 2)]) (by kernel_rfl) (ai (show a < 115792089237316195423570985008687907853269984665640564039457584007913129639936 /\ 52435875175126190479447740508185965837690552500527637822603658699938581184513 < 115792089237316195423570985008687907853269984665640564039457584007913129639936 /\ 52435875175126190479447740508185965837690552500527637822603658699938581184513 < a from ⟨ha, by decide, h⟩) tt0)
theorem NV (a : Nat) (ha : a < 115792089237316195423570985008687907853269984665640564039457584007913129639936) (h : 52435875175126190479447740508185965837690552500527637822603658699938581184513 <= a) : Gives prog 68 [.t (.ag [.n 4 a])] (.v (.bool false)) := by
 rcases Nat.lt_or_eq_of_le h with h | h
 ·exact Ny a ha h
 ·exact No a ha h.symm
def xX : Entry := p7 68 yR.x (fun a => [(some (a < 115792089237316195423570985008687907853269984665640564039457584007913129639936 /\ a < 52435875175126190479447740508185965837690552500527637822603658699938581184513), .v (.bool true)), (some (a < 115792089237316195423570985008687907853269984665640564039457584007913129639936 /\ 52435875175126190479447740508185965837690552500527637822603658699938581184513 <= a), .v (.bool false))])
theorem xb : xX.OK prog := pQ (fun args w => Go.Proofs.enters_of (P := prog) func68 (by kernel_rfl) rfl args w) (fun a c r hm hc => by
 simp only [List.mem_cons, pi0, List.not_mem_nil, or_false] at hm
 rcases hm with ⟨rfl, rfl⟩ | ⟨rfl, rfl⟩
 ·exact Ni a hc.1 hc.2
 ·exact NV a hc.1 hc.2)
end Go.Proofs.YtokjhbmmdmeafaaGreat
set_option linter.unusedSimpArgs false
set_option linter.unusedVariables false
namespace Go.Proofs.YtokjhbmmdmeafaaGreat
open Go.Ev Go.RowKit
open Tryz
theorem abt (x : Nat) : Gives prog 84 [.rd [.n 4 x] 4 4] (.v (.string (ofL (beL 32 x)))) := by
 have h : beL 32 x = (List.range 32).map (fun k => UInt8.ofNat (IntKind.u8.wrap ((x / 18446744073709551616 ^ (4 - 1 - k / 8) % 18446744073709551616 / 2 ^ min (56 - 8 * (k % 8)) 64 % 18446744073709551616 : Nat) : Int)).toNat) := by
  rw [yH]
  refine List.map_congr_left fun k hk => ?_
  rw [List.mem_range] at hk
  rw [IR x _ _ (by omega), ← Bw]
  congr 4
  omega
 rw [h]
 exact pL (P := prog) (X := qC _) (env := []) trivial func84 4 o0 (by kernel_rfl) ⟨_, rfl⟩ trivial
def JS : Entry := p7 84 (XPar.rd 4 yR (fun _ => rfl)) (fun a => [(none, .v (.string (ofL (beL 32 a))))])
theorem DM : JS.OK prog := pQ (fun args w => Go.Proofs.enters_of (P := prog) func84 (by kernel_rfl) rfl args w) (fun a => only (abt a))
def uM : Entry := p7 42 WS (fun a => [(some (DG a), .v (.string (ofL (beL 32 (YN a).val))))])
theorem te : uM.OK prog := pQ (fun args w => Go.Proofs.enters_of (P := prog) func42 (by kernel_rfl) rfl args w) (fun a => match a with
 | .inl a => rT (fun h => pI (P := prog) (env := [Cg, JS]) ⟨BQ, DM, tt0⟩ func42 0 o0 (by kernel_rfl) (ai h tt0))
 | .inr a => rT (fun h => pI (P := prog) (env := [Cg, JS]) ⟨BQ, DM, tt0⟩ func42 0 o0 (by kernel_rfl) (ai h tt0)))
def I6 (l : LU0) : Nat := pre l 3 8 % 18446744073709551616 + 18446744073709551616 * (pre l 2 8 % 18446744073709551616 + 18446744073709551616 * (pre l 1 8 % 18446744073709551616 + 18446744073709551616 * (pre l 0 8 % 18446744073709551616 + 18446744073709551616 * (0))))
theorem B9 (l : LU0) : I6 l = deN 32 l := by
 have e : deN 32 l = pre l 0 (8 * (0 + 4)) := rfl
 have l0 : pre l 0 8 < 18446744073709551616 := tO l 0 8
 have l1 : pre l 1 8 < 18446744073709551616 := tO l 1 8
 have l2 : pre l 2 8 < 18446744073709551616 := tO l 2 8
 have l3 : pre l 3 8 < 18446744073709551616 := tO l 3 8
 rw [e, show 8 * (0 + 4) = 8 * (3 + 1) from rfl, sg, show 8 * 3 = 8 * (2 + 1) from rfl, sg, show 8 * 2 = 8 * (1 + 1) from rfl, sg, show 8 * 1 = 8 * (0 + 1) from rfl, sg]
 unfold I6
 rw [Nat.mod_eq_of_lt l0]
 rw [Nat.mod_eq_of_lt l1]
 rw [Nat.mod_eq_of_lt l2]
 rw [Nat.mod_eq_of_lt l3]
 simp only [pre, Nat.mul_zero, Nat.zero_mul, Nat.zero_add]
 omega
theorem UJ (l : LU0) (h : deN 32 l < 52435875175126190479447740508185965837690552500527637822603658699938581184513) : (AV.tp [.ag [.n 1 (pre l 3 8), .n 1 (pre l 2 8), .n 1 (pre l 1 8), .n 1 (pre l 0 8)], vi0 0]).val? = (AV.tp [.ag [.e (ofR (deN 32 l))], vi0 0]).val? := by
 have e1 := rn 4 [.n 1 (pre l 3 8), .n 1 (pre l 2 8), .n 1 (pre l 1 8), .n 1 (pre l 0 8)] (I6 l) [] rfl
 rw [B9] at e1
 have e2 : flat [Ch.e (ofR (deN 32 l))] = limbs 4 (deN 32 l) := by simp only [flat, Ch.cells, List.append_nil]; rw [show (ofR (deN 32 l)).val = deN 32 l from Nat.mod_eq_of_lt h]
 have e3 : flat [.n 1 (pre l 3 8), .n 1 (pre l 2 8), .n 1 (pre l 1 8), .n 1 (pre l 0 8)] = flat [Ch.e (ofR (deN 32 l))] := by rw [e1, e2]; simp [flat]
 have e4 := ry (a := [.n 1 (pre l 3 8), .n 1 (pre l 2 8), .n 1 (pre l 1 8), .n 1 (pre l 0 8)]) (b := [Ch.e (ofR (deN 32 l))]) rfl rfl e3
 simp only [AV.val?, AV.vals?] at e4 ⊢
 rw [e4]
def aes (B : Nat -> Nat) : List Ora := [rO 1 (B 0), rO 1 (B 1), rO 1 (B 2), rO 1 (B 3), rO 1 (B 4), rO 1 (B 5), rO 1 (B 6), rO 1 (B 7), rO 1 (B 8), rO 1 (B 9), rO 1 (B 10), rO 1 (B 11), rO 1 (B 12), rO 1 (B 13), rO 1 (B 14), rO 1 (B 15), rO 1 (B 16), rO 1 (B 17), rO 1 (B 18), rO 1 (B 19), rO 1 (B 20), rO 1 (B 21), rO 1 (B 22), rO 1 (B 23), rO 1 (B 24), rO 1 (B 25), rO 1 (B 26), rO 1 (B 27), rO 1 (B 28), rO 1 (B 29), rO 1 (B 30), rO 1 (B 31)]
def abW (B : Nat -> Nat) : List Ora := [{ ch := 2, hi := fun _ => B 0 }, { ch := 2, hi := fun _ => B 1 }, { ch := 2, hi := fun _ => B 2 }, { ch := 2, hi := fun _ => B 3 }, { ch := 2, hi := fun _ => B 4 }, { ch := 2, hi := fun _ => B 5 }, { ch := 2, hi := fun _ => B 6 }, { ch := 2, hi := fun _ => B 7 }, { ch := 2, hi := fun _ => B 8 }, { ch := 2, hi := fun _ => B 9 }, { ch := 2, hi := fun _ => B 10 }, { ch := 2, hi := fun _ => B 11 }, { ch := 2, hi := fun _ => B 12 }, { ch := 2, hi := fun _ => B 13 }, { ch := 2, hi := fun _ => B 14 }, { ch := 2, hi := fun _ => B 15 }, { ch := 2, hi := fun _ => B 16 }, { ch := 2, hi := fun _ => B 17 }, { ch := 2, hi := fun _ => B 18 }, { ch := 2, hi := fun _ => B 19 }, { ch := 2, hi := fun _ => B 20 }, { ch := 2, hi := fun _ => B 21 }, { ch := 2, hi := fun _ => B 22 }, { ch := 2, hi := fun _ => B 23 }, { ch := 2, hi := fun _ => B 24 }, { ch := 2, hi := fun _ => B 25 }, { ch := 2, hi := fun _ => B 26 }, { ch := 2, hi := fun _ => B 27 }, { ch := 2, hi := fun _ => B 28 }, { ch := 2, hi := fun _ => B 29 }, { ch := 2, hi := fun _ => B 30 }, { ch := 2, hi := fun _ => B 31 }]
def acc (W : Nat -> Nat -> Nat) : List Ora := [{ ch := 1, hi := fun _ => W 0 1 }, { ch := 1, hi := fun _ => W 0 2 }, { ch := 1, hi := fun _ => W 0 3 }, { ch := 1, hi := fun _ => W 0 4 }, { ch := 1, hi := fun _ => W 0 5 }, { ch := 1, hi := fun _ => W 0 6 }, { ch := 1, hi := fun _ => W 0 7 }, { ch := 1, hi := fun _ => W 0 8 }, { ch := 1, hi := fun _ => W 1 1 }, { ch := 1, hi := fun _ => W 1 2 }, { ch := 1, hi := fun _ => W 1 3 }, { ch := 1, hi := fun _ => W 1 4 }, { ch := 1, hi := fun _ => W 1 5 }, { ch := 1, hi := fun _ => W 1 6 }, { ch := 1, hi := fun _ => W 1 7 }, { ch := 1, hi := fun _ => W 1 8 }, { ch := 1, hi := fun _ => W 2 1 }, { ch := 1, hi := fun _ => W 2 2 }, { ch := 1, hi := fun _ => W 2 3 }, { ch := 1, hi := fun _ => W 2 4 }, { ch := 1, hi := fun _ => W 2 5 }, { ch := 1, hi := fun _ => W 2 6 }, { ch := 1, hi := fun _ => W 2 7 }, { ch := 1, hi := fun _ => W 2 8 }, { ch := 1, hi := fun _ => W 3 1 }, { ch := 1, hi := fun _ => W 3 2 }, { ch := 1, hi := fun _ => W 3 3 }, { ch := 1, hi := fun _ => W 3 4 }, { ch := 1, hi := fun _ => W 3 5 }, { ch := 1, hi := fun _ => W 3 6 }, { ch := 1, hi := fun _ => W 3 7 }, { ch := 1, hi := fun _ => W 3 8 }]
def abq (B : Nat -> Nat) (W : Nat -> Nat -> Nat) (last : LO0) : Nat -> Ora := fun id =>
 match S2 [3, 10, 14, 25] id with
 | true => nV 32
 | false =>
  match Nat.ble 45 id, Nat.blt id 828 with
  | true, true => (match (id - 45) % 25 with
   | 0 => JQ (aes B) ((id - 45) / 25)
   | 1 => JQ (abW B) ((id - 45) / 25)
   | 2 => JQ (acc W) ((id - 45) / 25)
   | _ => { ch := 0, hi := fun _ => 0 })
  | _, _ => oL last id
theorem LO (l : LU0) : I6 l < 115792089237316195423570985008687907853269984665640564039457584007913129639936 := by rw [B9]; exact RC 32 l
set_option maxRecDepth 100000 in
def LG {l : LU0} (h : l.length = 32) := PLift.up (show ((l.length : Nat) : Int) = ((32 : Nat) : Int) from by rw [h])
def WW {l : LU0} {B : Nat -> Nat} {W : Nat -> Nat -> Nat} (h : l.length = 32) (hR : ∀ i : Nat, i < 32 -> (0 : Int) <= (i : Int) /\ (i : Int) < (ofL l).size /\ ((ofL l)[(i : Int).toNat]?.getD 0).toNat = B i) (hC : ∀ i, IntKind.u64 = IntKind.u64 /\ IntKind.u64.wrap ((B i : Nat) : Int) = ((B i % 18446744073709551616 : Nat) : Int)) (h0 : ∀ k, (0 ||| B (8 * k + 0) % 18446744073709551616) % 18446744073709551616 = W k 1 % 18446744073709551616) (h1 : ∀ k m, m < 8 -> (W k m / 18446744073709551616 ^ 0 * 2 ^ min 8 64 % 18446744073709551616 ||| B (8 * k + m) % 18446744073709551616) % 18446744073709551616 = W k (m + 1) % 18446744073709551616) := PLift.up (ai (h1 3 7 (by decide)) (ai (hC 31) (ai (hR 31 (by decide)) (ai (h1 3 6 (by decide)) (ai (hC 30) (ai (hR 30 (by decide)) (ai (h1 3 5 (by decide)) (ai (hC 29) (ai (hR 29 (by decide)) (ai (h1 3 4 (by decide)) (ai (hC 28) (ai (hR 28 (by decide)) (ai (h1 3 3 (by decide)) (ai (hC 27) (ai (hR 27 (by decide)) (ai (h1 3 2 (by decide)) (ai (hC 26) (ai (hR 26 (by decide)) (ai (h1 3 1 (by decide)) (ai (hC 25) (ai (hR 25 (by decide)) (ai (h0 3) (ai (hC 24) (ai (hR 24 (by decide)) (ai (h1 2 7 (by decide)) (ai (hC 23) (ai (hR 23 (by decide)) (ai (h1 2 6 (by decide)) (ai (hC 22) (ai (hR 22 (by decide)) (ai (h1 2 5 (by decide)) (ai (hC 21) (ai (hR 21 (by decide)) (ai (h1 2 4 (by decide)) (ai (hC 20) (ai (hR 20 (by decide)) (ai (h1 2 3 (by decide)) (ai (hC 19) (ai (hR 19 (by decide)) (ai (h1 2 2 (by decide)) (ai (hC 18) (ai (hR 18 (by decide)) (ai (h1 2 1 (by decide)) (ai (hC 17) (ai (hR 17 (by decide)) (ai (h0 2) (ai (hC 16) (ai (hR 16 (by decide)) (ai (h1 1 7 (by decide)) (ai (hC 15) (ai (hR 15 (by decide)) (ai (h1 1 6 (by decide)) (ai (hC 14) (ai (hR 14 (by decide)) (ai (h1 1 5 (by decide)) (ai (hC 13) (ai (hR 13 (by decide)) (ai (h1 1 4 (by decide)) (ai (hC 12) (ai (hR 12 (by decide)) (ai (h1 1 3 (by decide)) (ai (hC 11) (ai (hR 11 (by decide)) (ai (h1 1 2 (by decide)) (ai (hC 10) (ai (hR 10 (by decide)) (ai (h1 1 1 (by decide)) (ai (hC 9) (ai (hR 9 (by decide)) (ai (h0 1) (ai (hC 8) (ai (hR 8 (by decide)) (ai (h1 0 7 (by decide)) (ai (hC 7) (ai (hR 7 (by decide)) (ai (h1 0 6 (by decide)) (ai (hC 6) (ai (hR 6 (by decide)) (ai (h1 0 5 (by decide)) (ai (hC 5) (ai (hR 5 (by decide)) (ai (h1 0 4 (by decide)) (ai (hC 4) (ai (hR 4 (by decide)) (ai (h1 0 3 (by decide)) (ai (hC 3) (ai (hR 3 (by decide)) (ai (h1 0 2 (by decide)) (ai (hC 2) (ai (hR 2 (by decide)) (ai (h1 0 1 (by decide)) (ai (hC 1) (ai (hR 1 (by decide)) (ai (h0 0) (ai (hC 0) (ai (hR 0 (by decide)) (ai (LG h).down (ai (LG h).down (ai (LG h).down (ai (LG h).down tt0))))))))))))))))))))))))))))))))))))))))))))))))))))))))))))))))))))))))))))))))))))))))))))))))))))
theorem RQ {a : List XV} {r : AV} {b : Prop} (o : Nat -> Ora) (h : fnA prog (qC _) [xX] 1 o f29 a = some (r, b)) (hv : ∃ v, r.val? = some v) (hb : b) : Gives prog 29 a r := pL (P := prog) (X := qC _) (env := [xX]) ⟨xb, tt0⟩ func29 1 o h hv hb
theorem N9 (l : LU0) (B : Nat -> Nat) (W : Nat -> Nat -> Nat) (h : l.length = 32) (hR : ∀ i : Nat, i < 32 -> (0 : Int) <= (i : Int) /\ (i : Int) < (ofL l).size /\ ((ofL l)[(i : Int).toNat]?.getD 0).toNat = B i) (hC : ∀ i, IntKind.u64 = IntKind.u64 /\ IntKind.u64.wrap ((B i : Nat) : Int) = ((B i % 18446744073709551616 : Nat) : Int)) (h0 : ∀ k, (0 ||| B (8 * k + 0) % 18446744073709551616) % 18446744073709551616 = W k 1 % 18446744073709551616) (h1 : ∀ k m, m < 8 -> (W k m / 18446744073709551616 ^ 0 * 2 ^ min 8 64 % 18446744073709551616 ||| B (8 * k + m) % 18446744073709551616) % 18446744073709551616 = W k (m + 1) % 18446744073709551616) (hN : (W 3 8 % 18446744073709551616 + 18446744073709551616 * (W 2 8 % 18446744073709551616 + 18446744073709551616 * (W 1 8 % 18446744073709551616 + 18446744073709551616 * (W 0 8 % 18446744073709551616 + 18446744073709551616 * (0))))) < 115792089237316195423570985008687907853269984665640564039457584007913129639936 /\ (W 3 8 % 18446744073709551616 + 18446744073709551616 * (W 2 8 % 18446744073709551616 + 18446744073709551616 * (W 1 8 % 18446744073709551616 + 18446744073709551616 * (W 0 8 % 18446744073709551616 + 18446744073709551616 * (0))))) < 52435875175126190479447740508185965837690552500527637822603658699938581184513) : Gives prog 29 [.t (.v (.string (ofL l)))] (.tp [.ag [.n 1 (W 3 8), .n 1 (W 2 8), .n 1 (W 1 8), .n 1 (W 0 8)], vi0 0]) :=
 RQ (abq B W [(844, wO 0)]) (by kernel_rfl) ⟨_, rfl⟩ (ai (hN) (WW h hR hC h0 h1).down)
set_option maxRecDepth 100000 in
abbrev Xh : List Ch := [.c (.int .u64 0), .c (.int .u64 0), .c (.int .u64 0), .c (.int .u64 0)]
theorem Om (l : LU0) (B : Nat -> Nat) (W : Nat -> Nat -> Nat) (h : l.length = 32) (hR : ∀ i : Nat, i < 32 -> (0 : Int) <= (i : Int) /\ (i : Int) < (ofL l).size /\ ((ofL l)[(i : Int).toNat]?.getD 0).toNat = B i) (hC : ∀ i, IntKind.u64 = IntKind.u64 /\ IntKind.u64.wrap ((B i : Nat) : Int) = ((B i % 18446744073709551616 : Nat) : Int)) (h0 : ∀ k, (0 ||| B (8 * k + 0) % 18446744073709551616) % 18446744073709551616 = W k 1 % 18446744073709551616) (h1 : ∀ k m, m < 8 -> (W k m / 18446744073709551616 ^ 0 * 2 ^ min 8 64 % 18446744073709551616 ||| B (8 * k + m) % 18446744073709551616) % 18446744073709551616 = W k (m + 1) % 18446744073709551616) (hN : (W 3 8 % 18446744073709551616 + 18446744073709551616 * (W 2 8 % 18446744073709551616 + 18446744073709551616 * (W 1 8 % 18446744073709551616 + 18446744073709551616 * (W 0 8 % 18446744073709551616 + 18446744073709551616 * (0))))) < 115792089237316195423570985008687907853269984665640564039457584007913129639936 /\ 52435875175126190479447740508185965837690552500527637822603658699938581184513 <= (W 3 8 % 18446744073709551616 + 18446744073709551616 * (W 2 8 % 18446744073709551616 + 18446744073709551616 * (W 1 8 % 18446744073709551616 + 18446744073709551616 * (W 0 8 % 18446744073709551616 + 18446744073709551616 * (0)))))) : Gives prog 29 [.t (.v (.string (ofL l)))] (.tp [.ag Xh, vi0 20]) :=
 RQ (abq B W [(844, wO 1)]) (by kernel_rfl) ⟨_, rfl⟩ (ai (hN) (WW h hR hC h0 h1).down)
theorem QS (l : LU0) (h : l.length = 32) (hp : deN 32 l < 52435875175126190479447740508185965837690552500527637822603658699938581184513) : Gives prog 29 [.t (.v (.string (ofL l)))] (.tp [.ag [.e (ofR (deN 32 l))], vi0 0]) :=
 Gives.same (N9 l (byt l) (pre l) h (fun i hi => ym l 32 i h hi) (yq l) (BY l) (fun k m hm => by rw [Nat.pow_zero, Nat.div_one]; exact Fg l k m hm) (show I6 l < 115792089237316195423570985008687907853269984665640564039457584007913129639936 /\ I6 l < 52435875175126190479447740508185965837690552500527637822603658699938581184513 from ⟨LO l, by rw [B9]; exact hp⟩)) (UJ l hp).symm
theorem Rz (l : LU0) (h : l.length = 32) (hp : 52435875175126190479447740508185965837690552500527637822603658699938581184513 <= deN 32 l) : Gives prog 29 [.t (.v (.string (ofL l)))] (.tp [.ag [.c (.int .u64 0), .c (.int .u64 0), .c (.int .u64 0), .c (.int .u64 0)], vi0 20]) :=
 Om l (byt l) (pre l) h (fun i hi => ym l 32 i h hi) (yq l) (BY l) (fun k m hm => by rw [Nat.pow_zero, Nat.div_one]; exact Fg l k m hm) (show I6 l < 115792089237316195423570985008687907853269984665640564039457584007913129639936 /\ 52435875175126190479447740508185965837690552500527637822603658699938581184513 <= I6 l from ⟨LO l, by rw [B9]; exact hp⟩)
theorem MM (l : LU0) (h : l.length ≠ 32) : Gives prog 29 [.t (.v (.string (ofL l)))] (.tp [.ag Xh, vi0 3]) :=
 RQ (oL [(4, wT)]) (by kernel_rfl) ⟨_, rfl⟩ (ai (show ((((l.length : Nat) : Int) != 32) = true) from by simp; omega) tt0)
end Go.Proofs.YtokjhbmmdmeafaaGreat
set_option linter.unusedSimpArgs false
set_option linter.unusedVariables false
namespace Go.Proofs.YtokjhbmmdmeafaaGreat
open Go.Ev Go.RowKit
open Tryz
def sm4 (ns : List Nat) : Prop := ∀ x, x ∈ ns -> x < 115792089237316195423570985008687907853269984665640564039457584007913129639936
def rB (ns : List Nat) : Prop := ∀ x, x ∈ ns -> x < Rr
instance (ns : List Nat) : Decidable (rB ns) := inferInstanceAs (Decidable (∀ x, x ∈ ns -> x < Rr))
theorem EX : ∀ ns : List Nat, rB ns ∨ ∃ j x : Nat, ns[j]? = some x /\ ¬ x < Rr /\ ∀ (i y : Nat), i < j -> ns[i]? = some y -> y < Rr
 | [] => .inl (fun x hx => by cases hx)
 | n :: ns => by
  by_cases h : n < Rr
  ·rcases EX ns with h1 | ⟨j, x, h1, h2, h3⟩
   ·exact .inl (fun x hx => by rcases List.mem_cons.1 hx with rfl | hx; exact h; exact h1 x hx)
   ·refine .inr ⟨j + 1, x, h1, h2, fun i y hi hy => ?_⟩
    match i, hy with
    | 0, hy => simp only [List.getElem?_cons_zero, oi0] at hy; subst hy; exact h
    | i + 1, hy => exact h3 i y (by omega) (by simpa using hy)
  ·exact .inr ⟨0, n, rfl, h, fun i y hi => by omega⟩
theorem Cw (ns : List Nat) (i x : Nat) (h : ns[i]? = some x) : qd [.n 4 x] = 4 /\ ((flat [.l (numC 4 ns)]).drop (i * 4)).take 4 = flat [.n 4 x] := by
 refine ⟨rfl, ?_⟩
 rw [CN]
 have := Cb (limbs 4) (sK 4) ns i x h
 rw [show numC 4 ns = ns.flatMap (limbs 4) from rfl, this]
 simp [flat, Ch.cells]
theorem Ao {ns : List Nat} {i x : Nat} (h : ns[i]? = some x) : i < ns.length := (List.getElem?_eq_some_iff.1 h).1
theorem yj {ns : List Nat} {i x : Nat} (h : ns[i]? = some x) : x ∈ ns := List.mem_of_getElem? h
theorem GM {ns : List Nat} {i : Nat} (h : i < ns.length) : ∃ x, ns[i]? = some x := ⟨_, List.getElem?_eq_getElem h⟩
def N7 : Entry := p7 81 yR.x (fun a => [(some (a < 115792089237316195423570985008687907853269984665640564039457584007913129639936 /\ a < Rr), .v (.bool false)), (some (a < 115792089237316195423570985008687907853269984665640564039457584007913129639936 /\ Rr <= a), .v (.bool true))])
theorem zJ : N7.OK prog := pQ (fun args w => Go.Proofs.enters_of (P := prog) func81 (by kernel_rfl) rfl args w) (fun a c r hm hc => by
 simp only [List.mem_cons, pi0, List.not_mem_nil, or_false] at hm
 rcases hm with ⟨rfl, rfl⟩ | ⟨rfl, rfl⟩
 ·exact pI (P := prog) (env := [xX]) ⟨xb, tt0⟩ func81 0 (oN [] [(3, 0)]) (by kernel_rfl) (ai (show a < 115792089237316195423570985008687907853269984665640564039457584007913129639936 /\ a < 52435875175126190479447740508185965837690552500527637822603658699938581184513 from hc) tt0)
 ·exact pI (P := prog) (env := [xX]) ⟨xb, tt0⟩ func81 0 (oN [] [(3, 1)]) (by kernel_rfl) (ai (show a < 115792089237316195423570985008687907853269984665640564039457584007913129639936 /\ 52435875175126190479447740508185965837690552500527637822603658699938581184513 <= a from hc) tt0))
def fcI (ns : List Nat) (z : Int) : LState := { n := 19, sl := [(0, .sz 0 ns.length), (1, .clo 81 [] []), (7, vi0 ((ns.length : Nat) : Int)), (8, vi0 z)], hp := [(0, .rz [.l (numC 4 ns)])] }
def fcE (ns : List Nat) : LState := { n := 19, sl := [], hp := [(0, .rz [.l (numC 4 ns)])] }
def fcF (ns : List Nat) (z : Int) : LState := { n := 19, sl := [(4, vi0 z)], hp := [(0, .rz [.l (numC 4 ns)])] }
theorem If (ns : List Nat) (i x : Nat) (hx : ns[i]? = some x) (hm : ns.length <= 1000000) (hb : sm4 ns) (hr : x < Rr) : Sound prog 8 false (pS f108 0) (fcI ns (i : Int)).aa .normal (fcI ns ((i + 1 : Nat) : Int)).aa := by
 have hi := Ao hx
 have hs := pR (P := prog) (X := pN _) (env := [N7]) ⟨zJ, tt0⟩ (n := 0) (os := oL [(12, wT), (18, rO 14 i), (19, { ch := 0, hi := fun _ => 0, ru := 8, cs := fun _ => [.n 4 x] }), (20, wO 0)]) (fb := 8) (rd := false) (c := (pS f108 0)) (k := 12) (I := fcI ns (i : Int)) (sk := [0, 1, 7, 8]) (hk := [0]) (lk := []) (ex := .normal)
  (L := fcI ns (IntKind.i64.wrap ((i : Int) + 1))) (by kernel_rfl) (ai (show x < 115792089237316195423570985008687907853269984665640564039457584007913129639936 /\ x < Rr from ⟨hb x (yj hx), hr⟩) (ai (Cw ns i x hx) (ai (show (i : Int) = ((i : Nat) : Int) /\ i < ns.length from ⟨rfl, hi⟩) (ai (show decide ((i : Int) < ((ns.length : Nat) : Int)) = true from decide_eq_true (by omega)) tt0))))
 rw [show IntKind.i64.wrap ((i : Int) + 1) = ((i + 1 : Nat) : Int) by rw [p6]; omega] at hs
 exact hs
theorem aaO (ns : List Nat) : Sound prog 8 false (pS f108 0) (fcI ns ((ns.length : Nat) : Int)).aa (.exit 0) (fcE ns).aa :=
 pR (P := prog) (X := pN _) (env := [N7]) ⟨zJ, tt0⟩ (n := 0) (os := oL [(12, wF)]) (fb := 8) (rd := false) (c := (pS f108 0)) (k := 12) (I := fcI ns ((ns.length : Nat) : Int)) (sk := []) (hk := [0]) (lk := []) (ex := .exit 0)
  (L := fcE ns) (by kernel_rfl) (ai (show decide (((ns.length : Nat) : Int) < ((ns.length : Nat) : Int)) = false from decide_eq_false (by omega)) tt0)
theorem Ys (ns : List Nat) (i x : Nat) (hx : ns[i]? = some x) (hb : sm4 ns) (hr : ¬ x < Rr) : Sound prog 8 false (pS f108 0) (fcI ns (i : Int)).aa .ret (fcF ns (i : Int)).aa := by
 have hi := Ao hx
 exact pR (P := prog) (X := pN _) (env := [N7]) ⟨zJ, tt0⟩ (n := 0) (os := oL [(12, wT), (18, rO 14 i), (19, { ch := 0, hi := fun _ => 0, ru := 8, cs := fun _ => [.n 4 x] }), (20, wO 1)]) (fb := 8) (rd := false) (c := (pS f108 0)) (k := 12) (I := fcI ns (i : Int)) (sk := [4]) (hk := [0]) (lk := []) (ex := .ret)
  (L := fcF ns (i : Int)) (by kernel_rfl) (ai (show x < 115792089237316195423570985008687907853269984665640564039457584007913129639936 /\ Rr <= x from ⟨hb x (yj hx), Nat.le_of_not_lt hr⟩) (ai (Cw ns i x hx) (ai (show (i : Int) = ((i : Nat) : Int) /\ i < ns.length from ⟨rfl, hi⟩) (ai (show decide ((i : Int) < ((ns.length : Nat) : Int)) = true from decide_eq_true (by omega)) tt0))))
theorem aaY (ns : List Nat) (hm : ns.length <= 1000000) (hb : sm4 ns) (hc : rB ns) : Sound prog 8 false (.loop (pS f108 0)) (fcI ns 0).aa (.exit 0) (fcE ns).aa := by
 refine qk (m := fun y : { i : Nat // i <= ns.length } => ns.length - y.val) (fun y => fcI ns (y.val : Int)) (by simp) (fun y => ?_) ⟨0, by omega⟩
 obtain ⟨i, hi⟩ := y
 by_cases e : i < ns.length
 ·obtain ⟨x, hx⟩ := GM e
  exact .inl ⟨⟨i + 1, e⟩, by show ns.length - (i + 1) < ns.length - i; omega, If ns i x hx hm hb (hc x (yj hx))⟩
 ·have e : i = ns.length := by omega
  subst e
  exact .inr (aaO ns)
theorem acg (ns : List Nat) (hm : ns.length <= 1000000) (hb : sm4 ns) (j x : Nat) (hj : ns[j]? = some x) (hx : ¬ x < Rr) (hp : ∀ i y, i < j -> ns[i]? = some y -> y < Rr) : Sound prog 8 false (.loop (pS f108 0)) (fcI ns 0).aa .ret (fcF ns (j : Int)).aa := by
 refine qk (m := fun y : { i : Nat // i <= j } => j - y.val) (fun y => fcI ns (y.val : Int)) (by simp) (fun y => ?_) ⟨0, by omega⟩
 obtain ⟨i, hi⟩ := y
 by_cases e : i < j
 ·obtain ⟨y, hy⟩ := GM (show i < ns.length by have := Ao hj; omega)
  exact .inl ⟨⟨i + 1, by omega⟩, by show j - (i + 1) < j - i; omega, If ns i y hy hm hb (hp i y e hy)⟩
 ·have e : i = j := by omega
  subst e
  exact .inr (Ys ns i x hj hb hx)
theorem Ce (ns : List Nat) (hm : ns.length <= 1000000) (hb : sm4 ns) (hc : rB ns) : Gives prog 38 [.rz [.l (numC 4 ns)] ns.length] (.v (.bool true)) :=
 pL (P := prog) (X := pN _) (env := [N7]) ⟨zJ, tt0⟩ func38 2 (oL [(12, lpO { I := fcI ns 0, ex := .exit 0, E := fcE ns, fr := 13 })]) (by kernel_rfl) ⟨_, rfl⟩ (ai (show some (fcI ns 0) = some (fcI ns 0) from rfl) (ai (aaY ns hm hb hc) tt0))
theorem NL (ns : List Nat) (hm : ns.length <= 1000000) (hb : sm4 ns) (hc : ¬ rB ns) : Gives prog 38 [.rz [.l (numC 4 ns)] ns.length] (.v (.bool false)) := by
 rcases EX ns with h | ⟨j, x, h1, h2, h3⟩
 ·exact absurd h hc
 ·exact pL (P := prog) (X := pN _) (env := [N7]) ⟨zJ, tt0⟩ func38 2 (oL [(12, lpO { I := fcI ns 0, ex := .ret, E := fcF ns (j : Int), fr := 13 }), (13, wT)]) (by kernel_rfl) ⟨_, rfl⟩ (ai (show decide ((j : Int) >= 0) = true from decide_eq_true (by omega)) (ai (show some (fcI ns 0) = some (fcI ns 0) from rfl) (ai (acg ns hm hb j x h1 h2 h3) tt0)))
def aeV : XPar (List Nat) := XPar.ns 4 yR (fun _ => rfl)
def vA : Entry := p7 38 aeV (fun ns => [(some (ns.length <= 1000000 /\ sm4 ns /\ rB ns), .v (.bool true)), (some (ns.length <= 1000000 /\ sm4 ns /\ ¬ rB ns), .v (.bool false))])
theorem u7 : vA.OK prog := pQ (fun args w => Go.Proofs.enters_of (P := prog) func38 (by kernel_rfl) rfl args w) (fun ns c r hm hc => by
 simp only [List.mem_cons, pi0, List.not_mem_nil, or_false] at hm
 rcases hm with ⟨rfl, rfl⟩ | ⟨rfl, rfl⟩
 ·exact Ce ns hc.1 hc.2.1 hc.2.2
 ·exact NL ns hc.1 hc.2.1 hc.2.2)
end Go.Proofs.YtokjhbmmdmeafaaGreat
set_option linter.unusedSimpArgs false
set_option linter.unusedVariables false
namespace Go.Proofs.YtokjhbmmdmeafaaGreat
open Go.Ev Go.RowKit
open Tryz
def qL (n : Nat) : LU0 := beL 32 (YN (.inr n)).val
def yh (ns : List Nat) : LU0 := ns.flatMap qL
theorem rE (n : Nat) : (qL n).length = 32 := uN _ _
theorem Bq (ns : List Nat) : (yh ns).length = 32 * ns.length := by
 induction ns with
 | nil => rfl
 | cons n ns ih => simp only [yh, List.flatMap_cons, List.length_append, rE, List.length_cons] at ih ⊢; omega
theorem FC {ns : List Nat} {i x : Nat} (h : ns[i]? = some x) : ns.take (i + 1) = ns.take i ++ [x] := by
 rw [List.take_add_one, h]; rfl
theorem EK {ns : List Nat} {i x : Nat} (h : ns[i]? = some x) : yh (ns.take (i + 1)) = yh (ns.take i) ++ qL x := by
 rw [FC h]; simp [yh]
def b4 (k : IntKind) (n : Int) : LU0 := [UInt8.ofNat (IntKind.u8.wrap (n.fdiv (2 ^ min 24 k.bits))).toNat, UInt8.ofNat (IntKind.u8.wrap (n.fdiv (2 ^ min 16 k.bits))).toNat, UInt8.ofNat (IntKind.u8.wrap (n.fdiv (2 ^ min 8 k.bits))).toNat, UInt8.ofNat (IntKind.u8.wrap n).toNat]
def wR : Entry := p7 45 (XPar.int .u32) (fun n => [(none, .v (.string (ofL (b4 .u32 n))))])
theorem sU : wR.OK prog := pQ (fun args w => Go.Proofs.enters_of (P := prog) func45 (by kernel_rfl) rfl args w) (fun n => only (pI (P := prog) (env := []) trivial func45 0 o0 (by kernel_rfl) tt0))
theorem Nh (n : Int) : IntKind.u32.wrap n = n % 4294967296 := rfl
theorem xD (n : Int) : IntKind.u8.wrap n = n % 256 := rfl
theorem w7 (n : Int) : b4 .u32 (IntKind.u32.wrap n) = b4 .i64 n := by
 have e : ∀ k : Nat, (2 : Int) ^ min k IntKind.u32.bits = 2 ^ min k 32 := fun k => rfl
 have e' : ∀ k : Nat, (2 : Int) ^ min k IntKind.i64.bits = 2 ^ min k 64 := fun k => rfl
 simp only [b4, Nh, xD, e, e', show min 24 32 = 24 from rfl, show min 16 32 = 16 from rfl, show min 8 32 = 8 from rfl, show min 24 64 = 24 from rfl, show min 16 64 = 16 from rfl, show min 8 64 = 8 from rfl,
  show (2 : Int) ^ 24 = 16777216 from rfl, show (2 : Int) ^ 16 = 65536 from rfl, show (2 : Int) ^ 8 = 256 from rfl]
 have f1 : ∀ a : Int, a.fdiv 16777216 = a / 16777216 := fun a => Int.fdiv_eq_ediv_of_nonneg _ (by decide)
 have f2 : ∀ a : Int, a.fdiv 65536 = a / 65536 := fun a => Int.fdiv_eq_ediv_of_nonneg _ (by decide)
 have f3 : ∀ a : Int, a.fdiv 256 = a / 256 := fun a => Int.fdiv_eq_ediv_of_nonneg _ (by decide)
 simp only [f1, f2, f3]
 rw [show n % 4294967296 / 16777216 % 256 = n / 16777216 % 256 by omega, show n % 4294967296 / 65536 % 256 = n / 65536 % 256 by omega, show n % 4294967296 / 256 % 256 = n / 256 % 256 by omega, show n % 4294967296 % 256 = n % 256 by omega]
theorem A3 (k : IntKind) (n : Int) : (b4 k n).length = 4 := rfl
end Go.Proofs.YtokjhbmmdmeafaaGreat
set_option linter.unusedSimpArgs false
set_option linter.unusedVariables false
namespace Go.Proofs.YtokjhbmmdmeafaaGreat
open Go.Ev Go.RowKit
open Tryz
structure GT where
 q0 : Nat
 q1 : Nat
 q2 : Nat
 q3 : Nat
 q4 : Nat
 w0 : Int
 w1 : Int
 w2 : Int
def gP (g : GT) : List Ch := [.n 4 g.q0, .n 4 g.q1, .n 4 g.q2, .n 4 g.q3, .n 4 g.q4, ci0 g.w0, ci0 g.w1, ci0 g.w2]
def gC (g : GT) : List Value := flat (gP g)
theorem DU (g : GT) : (gC g).length = 23 := by unfold gC gP; simp [flat, Ch.cells, sK]
def gsC (gs : List GT) : List Value := gs.flatMap gC
def bw (vars v : Int) : Prop := v < -1 ∨ v >= vars
instance (vars v : Int) : Decidable (bw vars v) := inferInstanceAs (Decidable (_ ∨ _))
def okW (vars : Int) (g : GT) : Prop := ¬ bw vars g.w0 /\ ¬ bw vars g.w1 /\ ¬ bw vars g.w2
instance (vars : Int) (g : GT) : Decidable (okW vars g) := inferInstanceAs (Decidable (_ /\ _))
def uh (gs : List GT) (pub vars : Int) : Prop := gs.length <= 4096 /\ 0 <= pub /\ pub <= gs.length /\ 0 <= vars /\ ∀ g, g ∈ gs -> okW vars g
theorem uq (gs : List GT) (i : Nat) (g : GT) (h : gs[i]? = some g) : qd (gP g) = 23 /\ ((flat [.l (gsC gs)]).drop (i * 23)).take 23 = flat (gP g) := by
 refine ⟨rfl, ?_⟩
 rw [CN]
 exact Cb gC DU gs i g h
theorem I2 (vars : Int) : ∀ gs : List GT, (∀ g, g ∈ gs -> okW vars g) ∨ ∃ (j : Nat) (g : GT), gs[j]? = some g /\ ¬ okW vars g /\ ∀ (i : Nat) (y : GT), i < j -> gs[i]? = some y -> okW vars y
 | [] => .inl (fun x hx => by cases hx)
 | n :: ns => by
  by_cases h : okW vars n
  ·rcases I2 vars ns with h1 | ⟨j, x, h1, h2, h3⟩
   ·exact .inl (fun x hx => by rcases List.mem_cons.1 hx with rfl | hx; exact h; exact h1 x hx)
   ·refine .inr ⟨j + 1, x, h1, h2, fun i y hi hy => ?_⟩
    match i, hy with
    | 0, hy => simp only [List.getElem?_cons_zero, oi0] at hy; subst hy; exact h
    | i + 1, hy => exact h3 i y (by omega) (by simpa using hy)
  ·exact .inr ⟨0, n, rfl, h, fun i y hi => by omega⟩
theorem glt {gs : List GT} {i : Nat} {x : GT} (h : gs[i]? = some x) : i < gs.length := (List.getElem?_eq_some_iff.1 h).1
theorem V7 {gs : List GT} {i : Nat} {x : GT} (h : gs[i]? = some x) : x ∈ gs := List.mem_of_getElem? h
theorem gof {gs : List GT} {i : Nat} (h : i < gs.length) : ∃ x, gs[i]? = some x := ⟨_, List.getElem?_eq_getElem h⟩
theorem nlt {vars v : Int} (h : ¬ bw vars v) : decide (v < -1) = false := decide_eq_false (fun e => h (.inl e))
theorem nge {vars v : Int} (h : ¬ bw vars v) : decide (v >= vars) = false := decide_eq_false (fun e => h (.inr e))
def r8I (gs : List GT) (pub vars z : Int) : LState := { n := 51, sl := [(1, .p 4 0), (8, .sz 0 gs.length), (9, vi0 ((gs.length : Nat) : Int)), (10, vi0 z)], hp := [(0, .rz [.l (gsC gs)]), (4, .own [.sz 0 gs.length, ci0 pub, ci0 vars] 49)] }
def r8E (gs : List GT) (pub vars : Int) : LState := { n := 51, sl := [(1, .p 4 0)], hp := [(0, .rz [.l (gsC gs)]), (4, .own [.sz 0 gs.length, ci0 pub, ci0 vars] 49)] }
theorem acP (gs : List GT) (pub vars : Int) (hm : gs.length <= 9223372036854775807) (i : Nat) (g : GT) (hg : gs[i]? = some g) (h0 : ¬ bw vars g.w0) (h1 : ¬ bw vars g.w1) (h2 : ¬ bw vars g.w2) : Sound prog 0 false (pS f23 0) (r8I gs pub vars (i : Int)).aa .normal (r8I gs pub vars ((i + 1 : Nat) : Int)).aa := by
 have hi := glt hg
 have hs := pR (P := prog) (X := pN _) (env := []) trivial (n := 0) (os := oL [(10, wT), (11, rO 14 i), (12, { ch := 0, hi := fun _ => 0, ru := 8, cs := fun _ => gP g }), (22, wF), (27, wF), (35, wF), (40, wF), (48, wF), (53, wF)]) (fb := 0) (rd := false) (c := (pS f23 0)) (k := 10) (I := r8I gs pub vars (i : Int)) (sk := [1, 8, 9, 10]) (hk := [0, 4]) (lk := []) (ex := .normal)
  (L := r8I gs pub vars (IntKind.i64.wrap ((i : Int) + 1))) (by kernel_rfl) (ai (show decide (g.w2 >= vars) = false from nge h2) (ai (show decide (g.w2 < -1) = false from nlt h2) (ai (show decide (g.w1 >= vars) = false from nge h1) (ai (show decide (g.w1 < -1) = false from nlt h1) (ai (show decide (g.w0 >= vars) = false from nge h0) (ai (show decide (g.w0 < -1) = false from nlt h0) (ai (uq gs i g hg) (ai (show (i : Int) = ((i : Nat) : Int) /\ i < gs.length from ⟨rfl, hi⟩) (ai (show decide ((i : Int) < ((gs.length : Nat) : Int)) = true from decide_eq_true (by omega)) tt0)))))))))
 rw [show IntKind.i64.wrap ((i : Int) + 1) = ((i + 1 : Nat) : Int) by rw [p6]; omega] at hs
 exact hs
theorem QK {c : Code} {I L : LState} {ex : Ex} {b : Prop} (o : LO0) (k : Nat) (sk hk : List Nat) (hb : b) (h : uW prog (pN _) [] 0 (oL o) 0 false c k I sk hk [] = some (ex, L, b) := by kernel_rfl) : Sound prog 0 false c I.aa ex L.aa := pR (P := prog) (X := pN _) (env := []) trivial h hb
theorem YB (gs : List GT) (pub vars : Int) : Sound prog 0 false (pS f23 0) (r8I gs pub vars ((gs.length : Nat) : Int)).aa (.exit 0) (r8E gs pub vars).aa :=
 QK [(10, wF)] 10 [1] [0, 4] (ai (show decide (((gs.length : Nat) : Int) < ((gs.length : Nat) : Int)) = false from decide_eq_false (by omega)) tt0)
theorem Yr (gs : List GT) (pub vars : Int) (hm : gs.length <= 9223372036854775807) (hc : ∀ g, g ∈ gs -> okW vars g) : Sound prog 0 false (.loop (pS f23 0)) (r8I gs pub vars 0).aa (.exit 0) (r8E gs pub vars).aa := by
 refine qk (m := fun y : { i : Nat // i <= gs.length } => gs.length - y.val) (fun y => r8I gs pub vars (y.val : Int)) (by simp) (fun y => ?_) ⟨0, by omega⟩
 obtain ⟨i, hi⟩ := y
 by_cases e : i < gs.length
 ·obtain ⟨g, hg⟩ := gof e
  obtain ⟨h0, h1, h2⟩ := hc g (V7 hg)
  exact .inl ⟨⟨i + 1, e⟩, by show gs.length - (i + 1) < gs.length - i; omega, acP gs pub vars hm i g hg h0 h1 h2⟩
 ·have e : i = gs.length := by omega
  subst e
  exact .inr (YB gs pub vars)
def ccI (gs : List GT) (pub vars z : Int) : LState := { n := 19, sl := [(0, .sz 0 gs.length), (1, .clo 77 [] [.p 4 0]), (7, vi0 ((gs.length : Nat) : Int)), (8, vi0 z)], hp := [(0, .rz [.l (gsC gs)]), (4, .own [.sz 0 gs.length, ci0 pub, ci0 vars] 49)] }
def ccE (gs : List GT) (pub vars : Int) : LState := { n := 19, sl := [], hp := [(0, .rz [.l (gsC gs)]), (4, .own [.sz 0 gs.length, ci0 pub, ci0 vars] 49)] }
def ccF (gs : List GT) (pub vars z : Int) : LState := { n := 19, sl := [(4, vi0 z)], hp := [(0, .rz [.l (gsC gs)]), (4, .own [.sz 0 gs.length, ci0 pub, ci0 vars] 49)] }
def QM (g : GT) : Ora := { ch := 0, hi := fun _ => 0, ru := 8, cs := fun _ => gP g }
theorem abr (gs : List GT) (pub vars : Int) (i : Nat) (g : GT) (hg : gs[i]? = some g) (hb : g.w0 < -1) : Sound prog 36 false (pS f106 0) (ccI gs pub vars (i : Int)).aa .ret (ccF gs pub vars (i : Int)).aa := by
 have hi := glt hg
 exact pR (P := prog) (X := pN _) (env := []) trivial (n := 4) (os := oL [(40, wT), (46, rO 14 i), (47, (QM g)), (74, wT)]) (fb := 36) (rd := false) (c := (pS f106 0)) (k := 40) (I := ccI gs pub vars (i : Int)) (sk := [4]) (hk := [0, 4]) (lk := []) (ex := .ret)
  (L := ccF gs pub vars (i : Int)) (by kernel_rfl) (ai (show decide (g.w0 < -1) = true from decide_eq_true hb) (ai (uq gs i g hg) (ai (show (i : Int) = ((i : Nat) : Int) /\ i < gs.length from ⟨rfl, hi⟩) (ai (show decide ((i : Int) < ((gs.length : Nat) : Int)) = true from decide_eq_true (by omega)) tt0))))
def It (i : Nat) (g : GT) : LO0 := [(40, wT), (46, rO 14 i), (47, (QM g)), (74, wF)]
theorem abY (gs : List GT) (pub vars : Int) (i : Nat) (g : GT) (hg : gs[i]? = some g) (ha : ¬ g.w0 < -1) (hb : g.w0 >= vars) : Sound prog 36 false (pS f106 0) (ccI gs pub vars (i : Int)).aa .ret (ccF gs pub vars (i : Int)).aa := by
 have hi := glt hg
 exact pR (P := prog) (X := pN _) (env := []) trivial (n := 4) (os := oL ((It i g) ++ [(79, wT)])) (fb := 36) (rd := false) (c := (pS f106 0)) (k := 40) (I := ccI gs pub vars (i : Int)) (sk := [4]) (hk := [0, 4]) (lk := []) (ex := .ret)
  (L := ccF gs pub vars (i : Int)) (by kernel_rfl) (ai (show decide (g.w0 >= vars) = true from decide_eq_true hb) (ai (show decide (g.w0 < -1) = false from decide_eq_false ha) (ai (uq gs i g hg) (ai (show (i : Int) = ((i : Nat) : Int) /\ i < gs.length from ⟨rfl, hi⟩) (ai (show decide ((i : Int) < ((gs.length : Nat) : Int)) = true from decide_eq_true (by omega)) tt0)))))
theorem abo (gs : List GT) (pub vars : Int) (i : Nat) (g : GT) (hg : gs[i]? = some g) (h0 : ¬ bw vars g.w0) (hb : g.w1 < -1) : Sound prog 36 false (pS f106 0) (ccI gs pub vars (i : Int)).aa .ret (ccF gs pub vars (i : Int)).aa := by
 have hi := glt hg
 exact pR (P := prog) (X := pN _) (env := []) trivial (n := 4) (os := oL ((It i g) ++ [(79, wF), (95, wT)])) (fb := 36) (rd := false) (c := (pS f106 0)) (k := 40) (I := ccI gs pub vars (i : Int)) (sk := [4]) (hk := [0, 4]) (lk := []) (ex := .ret)
  (L := ccF gs pub vars (i : Int)) (by kernel_rfl) (ai (show decide (g.w1 < -1) = true from decide_eq_true hb) (ai (show decide (g.w0 >= vars) = false from nge h0) (ai (show decide (g.w0 < -1) = false from nlt h0) (ai (uq gs i g hg) (ai (show (i : Int) = ((i : Nat) : Int) /\ i < gs.length from ⟨rfl, hi⟩) (ai (show decide ((i : Int) < ((gs.length : Nat) : Int)) = true from decide_eq_true (by omega)) tt0))))))
theorem adx (gs : List GT) (pub vars : Int) (i : Nat) (g : GT) (hg : gs[i]? = some g) (h0 : ¬ bw vars g.w0) (ha : ¬ g.w1 < -1) (hb : g.w1 >= vars) : Sound prog 36 false (pS f106 0) (ccI gs pub vars (i : Int)).aa .ret (ccF gs pub vars (i : Int)).aa := by
 have hi := glt hg
 exact pR (P := prog) (X := pN _) (env := []) trivial (n := 4) (os := oL ((It i g) ++ [(79, wF), (95, wF), (100, wT)])) (fb := 36) (rd := false) (c := (pS f106 0)) (k := 40) (I := ccI gs pub vars (i : Int)) (sk := [4]) (hk := [0, 4]) (lk := []) (ex := .ret)
  (L := ccF gs pub vars (i : Int)) (by kernel_rfl) (ai (show decide (g.w1 >= vars) = true from decide_eq_true hb) (ai (show decide (g.w1 < -1) = false from decide_eq_false ha) (ai (show decide (g.w0 >= vars) = false from nge h0) (ai (show decide (g.w0 < -1) = false from nlt h0) (ai (uq gs i g hg) (ai (show (i : Int) = ((i : Nat) : Int) /\ i < gs.length from ⟨rfl, hi⟩) (ai (show decide ((i : Int) < ((gs.length : Nat) : Int)) = true from decide_eq_true (by omega)) tt0)))))))
theorem ab0 (gs : List GT) (pub vars : Int) (i : Nat) (g : GT) (hg : gs[i]? = some g) (h0 : ¬ bw vars g.w0) (h1 : ¬ bw vars g.w1) (hb : g.w2 < -1) : Sound prog 36 false (pS f106 0) (ccI gs pub vars (i : Int)).aa .ret (ccF gs pub vars (i : Int)).aa := by
 have hi := glt hg
 exact pR (P := prog) (X := pN _) (env := []) trivial (n := 4) (os := oL ((It i g) ++ [(79, wF), (95, wF), (100, wF), (116, wT)])) (fb := 36) (rd := false) (c := (pS f106 0)) (k := 40) (I := ccI gs pub vars (i : Int)) (sk := [4]) (hk := [0, 4]) (lk := []) (ex := .ret)
  (L := ccF gs pub vars (i : Int)) (by kernel_rfl) (ai (show decide (g.w2 < -1) = true from decide_eq_true hb) (ai (show decide (g.w1 >= vars) = false from nge h1) (ai (show decide (g.w1 < -1) = false from nlt h1) (ai (show decide (g.w0 >= vars) = false from nge h0) (ai (show decide (g.w0 < -1) = false from nlt h0) (ai (uq gs i g hg) (ai (show (i : Int) = ((i : Nat) : Int) /\ i < gs.length from ⟨rfl, hi⟩) (ai (show decide ((i : Int) < ((gs.length : Nat) : Int)) = true from decide_eq_true (by omega)) tt0))))))))
theorem ael (gs : List GT) (pub vars : Int) (i : Nat) (g : GT) (hg : gs[i]? = some g) (h0 : ¬ bw vars g.w0) (h1 : ¬ bw vars g.w1) (ha : ¬ g.w2 < -1) (hb : g.w2 >= vars) : Sound prog 36 false (pS f106 0) (ccI gs pub vars (i : Int)).aa .ret (ccF gs pub vars (i : Int)).aa := by
 have hi := glt hg
 exact pR (P := prog) (X := pN _) (env := []) trivial (n := 4) (os := oL ((It i g) ++ [(79, wF), (95, wF), (100, wF), (116, wF), (121, wT)])) (fb := 36) (rd := false) (c := (pS f106 0)) (k := 40) (I := ccI gs pub vars (i : Int)) (sk := [4]) (hk := [0, 4]) (lk := []) (ex := .ret)
  (L := ccF gs pub vars (i : Int)) (by kernel_rfl) (ai (show decide (g.w2 >= vars) = true from decide_eq_true hb) (ai (show decide (g.w2 < -1) = false from decide_eq_false ha) (ai (show decide (g.w1 >= vars) = false from nge h1) (ai (show decide (g.w1 < -1) = false from nlt h1) (ai (show decide (g.w0 >= vars) = false from nge h0) (ai (show decide (g.w0 < -1) = false from nlt h0) (ai (uq gs i g hg) (ai (show (i : Int) = ((i : Nat) : Int) /\ i < gs.length from ⟨rfl, hi⟩) (ai (show decide ((i : Int) < ((gs.length : Nat) : Int)) = true from decide_eq_true (by omega)) tt0)))))))))
theorem WQ (gs : List GT) (pub vars : Int) (hm : gs.length <= 9223372036854775807) (i : Nat) (g : GT) (hg : gs[i]? = some g) (h0 : ¬ bw vars g.w0) (h1 : ¬ bw vars g.w1) (h2 : ¬ bw vars g.w2) : Sound prog 36 false (pS f106 0) (ccI gs pub vars (i : Int)).aa .normal (ccI gs pub vars ((i + 1 : Nat) : Int)).aa := by
 have hi := glt hg
 have hs := pR (P := prog) (X := pN _) (env := []) trivial (n := 4) (os := oL [(40, wT), (46, rO 14 i), (47, { ch := 0, hi := fun _ => 0, ru := 8, cs := fun _ => gP g }), (74, wF), (79, wF), (95, wF), (100, wF), (116, wF), (121, wF)]) (fb := 36) (rd := false) (c := (pS f106 0)) (k := 40) (I := ccI gs pub vars (i : Int)) (sk := [0, 1, 7, 8]) (hk := [0, 4]) (lk := []) (ex := .normal)
  (L := ccI gs pub vars (IntKind.i64.wrap ((i : Int) + 1))) (by kernel_rfl) (ai (show decide (g.w2 >= vars) = false from nge h2) (ai (show decide (g.w2 < -1) = false from nlt h2) (ai (show decide (g.w1 >= vars) = false from nge h1) (ai (show decide (g.w1 < -1) = false from nlt h1) (ai (show decide (g.w0 >= vars) = false from nge h0) (ai (show decide (g.w0 < -1) = false from nlt h0) (ai (uq gs i g hg) (ai (show (i : Int) = ((i : Nat) : Int) /\ i < gs.length from ⟨rfl, hi⟩) (ai (show decide ((i : Int) < ((gs.length : Nat) : Int)) = true from decide_eq_true (by omega)) tt0)))))))))
 rw [show IntKind.i64.wrap ((i : Int) + 1) = ((i + 1 : Nat) : Int) by rw [p6]; omega] at hs
 exact hs
theorem ZO (gs : List GT) (pub vars : Int) : Sound prog 36 false (pS f106 0) (ccI gs pub vars ((gs.length : Nat) : Int)).aa (.exit 0) (ccE gs pub vars).aa :=
 pR (P := prog) (X := pN _) (env := []) trivial (n := 0) (os := oL [(40, wF)]) (fb := 36) (rd := false) (c := (pS f106 0)) (k := 40) (I := ccI gs pub vars ((gs.length : Nat) : Int)) (sk := []) (hk := [0, 4]) (lk := []) (ex := .exit 0)
  (L := ccE gs pub vars) (by kernel_rfl) (ai (show decide (((gs.length : Nat) : Int) < ((gs.length : Nat) : Int)) = false from decide_eq_false (by omega)) tt0)
theorem aaL (gs : List GT) (pub vars : Int) (i : Nat) (g : GT) (hg : gs[i]? = some g) (hb : ¬ okW vars g) : Sound prog 36 false (pS f106 0) (ccI gs pub vars (i : Int)).aa .ret (ccF gs pub vars (i : Int)).aa := by
 by_cases h0 : bw vars g.w0
 ·by_cases ha : g.w0 < -1
  ·exact abr gs pub vars i g hg ha
  ·exact abY gs pub vars i g hg ha (h0.resolve_left ha)
 by_cases h1 : bw vars g.w1
 ·by_cases ha : g.w1 < -1
  ·exact abo gs pub vars i g hg h0 ha
  ·exact adx gs pub vars i g hg h0 ha (h1.resolve_left ha)
 by_cases h2 : bw vars g.w2
 ·by_cases ha : g.w2 < -1
  ·exact ab0 gs pub vars i g hg h0 h1 ha
  ·exact ael gs pub vars i g hg h0 h1 ha (h2.resolve_left ha)
 exact absurd ⟨h0, h1, h2⟩ hb
theorem YD (gs : List GT) (pub vars : Int) (hm : gs.length <= 9223372036854775807) (hc : ∀ g, g ∈ gs -> okW vars g) : Sound prog 36 false (.loop (pS f106 0)) (ccI gs pub vars 0).aa (.exit 0) (ccE gs pub vars).aa := by
 refine qk (m := fun y : { i : Nat // i <= gs.length } => gs.length - y.val) (fun y => ccI gs pub vars (y.val : Int)) (by simp) (fun y => ?_) ⟨0, by omega⟩
 obtain ⟨i, hi⟩ := y
 by_cases e : i < gs.length
 ·obtain ⟨g, hg⟩ := gof e
  obtain ⟨h0, h1, h2⟩ := hc g (V7 hg)
  exact .inl ⟨⟨i + 1, e⟩, by show gs.length - (i + 1) < gs.length - i; omega, WQ gs pub vars hm i g hg h0 h1 h2⟩
 ·have e : i = gs.length := by omega
  subst e
  exact .inr (ZO gs pub vars)
theorem aeM (gs : List GT) (pub vars : Int) (hm : gs.length <= 9223372036854775807) (j : Nat) (x : GT) (hj : gs[j]? = some x) (hx : ¬ okW vars x) (hp : ∀ (i : Nat) (y : GT), i < j -> gs[i]? = some y -> okW vars y) : Sound prog 36 false (.loop (pS f106 0)) (ccI gs pub vars 0).aa .ret (ccF gs pub vars (j : Int)).aa := by
 refine qk (m := fun y : { i : Nat // i <= j } => j - y.val) (fun y => ccI gs pub vars (y.val : Int)) (by simp) (fun y => ?_) ⟨0, by omega⟩
 obtain ⟨i, hi⟩ := y
 by_cases e : i < j
 ·obtain ⟨g, hg⟩ := gof (show i < gs.length by have := glt hj; omega)
  obtain ⟨h0, h1, h2⟩ := hp i g e hg
  exact .inl ⟨⟨i + 1, by omega⟩, by show j - (i + 1) < j - i; omega, WQ gs pub vars hm i g hg h0 h1 h2⟩
 ·have e : i = j := by omega
  subst e
  exact .inr (aaL gs pub vars i x hj hx)
theorem ad1 (gs : List GT) (pub vars : Int) (hm : gs.length <= 9223372036854775807) (hc : ∀ g, g ∈ gs -> okW vars g) (h1 : gs.length <= 4096) (h2 : 0 <= pub) (h3 : pub <= gs.length) (h4 : 0 <= vars) : Gives prog 23 [.ags [.z [.l (gsC gs)] gs.length, .c (ci0 pub), .c (ci0 vars)]] (.v (.bool true)) :=
 pL (P := prog) (X := pN _) (env := []) trivial func23 0 (oL [(10, lpO { I := r8I gs pub vars 0, ex := .exit 0, E := r8E gs pub vars, fr := 11 }), (14, wT), (18, wT), (26, wT), (31, wT)]) (by kernel_rfl) ⟨_, rfl⟩ (ai (show decide (vars >= 0) = true from decide_eq_true h4) (ai (show decide (pub <= ((gs.length : Nat) : Int)) = true from decide_eq_true h3) (ai (show decide (pub >= 0) = true from decide_eq_true h2) (ai (show decide (((gs.length : Nat) : Int) <= 4096) = true from decide_eq_true (by omega)) (ai (show some (r8I gs pub vars 0) = some (r8I gs pub vars 0) from rfl) (ai (Yr gs pub vars hm hc) tt0))))))
theorem Vw (gs : List GT) (pub vars : Int) (hm : gs.length <= 9223372036854775807) (h : uh gs pub vars) : Gives prog 23 [.ags [.z [.l (gsC gs)] gs.length, .c (ci0 pub), .c (ci0 vars)]] (.v (.bool true)) :=
 ad1 gs pub vars hm h.2.2.2.2 h.1 h.2.1 h.2.2.1 h.2.2.2.1
theorem AR {a : List XV} {r : AV} {b : Prop} (o : LO0) (hb : b) (h : fnA prog (pN _) [] 5 (oL o) f36 a = some (r, b) := by kernel_rfl) (hv : ∃ v, r.val? = some v := by exact ⟨_, rfl⟩) : Gives prog 36 a r := pL (P := prog) (X := pN _) (env := []) trivial func36 5 (oL o) h hv hb
theorem ae9 (gs : List GT) (pub vars : Int) (h1 : ¬ gs.length <= 4096) : Gives prog 36 [.ags [.z [.l (gsC gs)] gs.length, .c (ci0 pub), .c (ci0 vars)]] (.v (.bool false)) :=
 AR [(9, wT)] (ai (show decide (((gs.length : Nat) : Int) > 4096) = true from decide_eq_true (by omega)) tt0)
def Sq {gs : List GT} (h1 : gs.length <= 4096) := PLift.up (ai (show decide (((gs.length : Nat) : Int) > 4096) = false from decide_eq_false (by omega)) tt0)
theorem afj (gs : List GT) (pub vars : Int) (h1 : gs.length <= 4096) (h2 : ¬ 0 <= pub) : Gives prog 36 [.ags [.z [.l (gsC gs)] gs.length, .c (ci0 pub), .c (ci0 vars)]] (.v (.bool false)) :=
 AR [(9, wF), (13, wT)] (ai (show decide (pub < 0) = true from decide_eq_true (by omega))
   (Sq h1).down)
theorem afn (gs : List GT) (pub vars : Int) (h1 : gs.length <= 4096) (h2 : 0 <= pub) (h3 : ¬ pub <= gs.length) : Gives prog 36 [.ags [.z [.l (gsC gs)] gs.length, .c (ci0 pub), .c (ci0 vars)]] (.v (.bool false)) :=
 AR [(9, wF), (13, wF), (21, wT)] (ai (show decide (pub > ((gs.length : Nat) : Int)) = true from decide_eq_true (by omega)) (ai (show decide (pub < 0) = false from decide_eq_false (by omega))
   (Sq h1).down))
def Qa {gs : List GT} {pub : Int} (h1 : gs.length <= 4096) (h2 : 0 <= pub) (h3 : pub <= gs.length) := PLift.up (ai (show decide (pub > ((gs.length : Nat) : Int)) = false from decide_eq_false (by omega)) (ai (show decide (pub < 0) = false from decide_eq_false (by omega))
   (Sq h1).down))
theorem agD (gs : List GT) (pub vars : Int) (h1 : gs.length <= 4096) (h2 : 0 <= pub) (h3 : pub <= gs.length) (h4 : ¬ 0 <= vars) : Gives prog 36 [.ags [.z [.l (gsC gs)] gs.length, .c (ci0 pub), .c (ci0 vars)]] (.v (.bool false)) :=
 AR [(9, wF), (13, wF), (21, wF), (26, wT)] (ai (show decide (vars < 0) = true from decide_eq_true (by omega))
   (Qa h1 h2 h3).down)
theorem afs (gs : List GT) (pub vars : Int) (hm : gs.length <= 9223372036854775807) (hc : ∀ g, g ∈ gs -> okW vars g) (h1 : gs.length <= 4096) (h2 : 0 <= pub) (h3 : pub <= gs.length) (h4 : 0 <= vars) : Gives prog 36 [.ags [.z [.l (gsC gs)] gs.length, .c (ci0 pub), .c (ci0 vars)]] (.v (.bool true)) :=
 AR [(9, wF), (13, wF), (21, wF), (26, wF), (40, lpO { I := ccI gs pub vars 0, ex := .exit 0, E := ccE gs pub vars, fr := 41 })] (ai (show some (ccI gs pub vars 0) = some (ccI gs pub vars 0) from rfl) (ai (YD gs pub vars hm hc) (ai (show decide (vars < 0) = false from decide_eq_false (by omega))
   (Qa h1 h2 h3).down)))
theorem agE (gs : List GT) (pub vars : Int) (hm : gs.length <= 9223372036854775807) (h1 : gs.length <= 4096) (h2 : 0 <= pub) (h3 : pub <= gs.length) (h4 : 0 <= vars) (j : Nat) (x : GT) (hj : gs[j]? = some x) (hx : ¬ okW vars x) (hp : ∀ (i : Nat) (y : GT), i < j -> gs[i]? = some y -> okW vars y) : Gives prog 36 [.ags [.z [.l (gsC gs)] gs.length, .c (ci0 pub), .c (ci0 vars)]] (.v (.bool false)) :=
 AR [(9, wF), (13, wF), (21, wF), (26, wF), (40, lpO { I := ccI gs pub vars 0, ex := .ret, E := ccF gs pub vars (j : Int), fr := 41 }), (41, wT)] (ai (show decide ((j : Int) >= 0) = true from decide_eq_true (by omega)) (ai (show some (ccI gs pub vars 0) = some (ccI gs pub vars 0) from rfl) (ai (aeM gs pub vars hm j x hj hx hp) (ai (show decide (vars < 0) = false from decide_eq_false (by omega))
   (Qa h1 h2 h3).down))))
theorem OW (gs : List GT) (pub vars : Int) (h : uh gs pub vars) : Gives prog 36 [.ags [.z [.l (gsC gs)] gs.length, .c (ci0 pub), .c (ci0 vars)]] (.v (.bool true)) :=
 afs gs pub vars (by have := h.1; omega) h.2.2.2.2 h.1 h.2.1 h.2.2.1 h.2.2.2.1
theorem aet (gs : List GT) (pub vars : Int) (h : ¬ uh gs pub vars) : Gives prog 36 [.ags [.z [.l (gsC gs)] gs.length, .c (ci0 pub), .c (ci0 vars)]] (.v (.bool false)) := by
 by_cases h1 : gs.length <= 4096
 ·by_cases h2 : 0 <= pub
  ·by_cases h3 : pub <= gs.length
   ·by_cases h4 : 0 <= vars
    ·rcases I2 vars gs with hc | ⟨j, x, e1, e2, e3⟩
     ·exact absurd ⟨h1, h2, h3, h4, hc⟩ h
     ·exact agE gs pub vars (by omega) h1 h2 h3 h4 j x e1 e2 e3
    ·exact agD gs pub vars h1 h2 h3 h4
   ·exact afn gs pub vars h1 h2 h3
  ·exact afj gs pub vars h1 h2
 ·exact ae9 gs pub vars h1
end Go.Proofs.YtokjhbmmdmeafaaGreat
set_option linter.unusedSimpArgs false
set_option linter.unusedVariables false
namespace Go.Proofs.YtokjhbmmdmeafaaGreat
open Go.Ev Go.RowKit
open Tryz
def gN (g : GT) : List Nat := [g.q0, g.q1, g.q2, g.q3, g.q4]
def smG (g : GT) : Prop := sm4 (gN g)
def xK (g : GT) : Prop := rB (gN g)
instance (g : GT) : Decidable (xK g) := inferInstanceAs (Decidable (rB _))
def gS (g : GT) : LU0 := (((qL g.q0 ++ qL g.q1) ++ qL g.q2) ++ qL g.q3) ++ qL g.q4
def gB (g : GT) : LU0 := gS g ++ (b4 .i64 g.w0 ++ (b4 .i64 g.w1 ++ b4 .i64 g.w2))
theorem Em (g : GT) : (gS g).length = 160 := by unfold gS; simp [rE]
theorem EU (g : GT) : (gB g).length = 172 := by unfold gB; simp [Em, A3]
def hdC (gs : List GT) (pub vars : Int) : LU0 := (b4 .i64 (gs.length : Nat) ++ b4 .i64 pub) ++ b4 .i64 vars
def hdU (gs : List GT) (pub vars : Int) : LU0 := (b4 .u32 (IntKind.u32.wrap (gs.length : Nat)) ++ b4 .u32 (IntKind.u32.wrap pub)) ++ b4 .u32 (IntKind.u32.wrap vars)
theorem J8 (gs : List GT) (pub vars : Int) : hdU gs pub vars = hdC gs pub vars := by unfold hdU hdC; rw [w7, w7, w7]
def mgC : LU0 := [67, 72, 67, 49]
def outC (gs : List GT) (pub vars : Int) (i : Nat) : LU0 := (mgC ++ hdC gs pub vars) ++ (gs.take i).flatMap gB
theorem vj (gs : List GT) (pub vars : Int) (i : Nat) : (outC gs pub vars i).length <= 16 + 172 * gs.length := by
 have : ∀ l : List GT, (l.flatMap gB).length = 172 * l.length := fun l => by
  induction l with
  | nil => rfl
  | cons g l ih => simp only [List.flatMap_cons, List.length_append, EU, ih, List.length_cons]; omega
 unfold outC
 simp only [List.length_append, this, List.length_take]
 have h1 : (hdC gs pub vars).length = 12 := rfl
 have h2 : mgC.length = 4 := rfl
 omega
theorem Ei {gs : List GT} {pub vars : Int} {i : Nat} {g : GT} (h : gs[i]? = some g) : outC gs pub vars (i + 1) = outC gs pub vars i ++ gB g := by
 unfold outC
 rw [List.take_add_one, h]
 simp
def pcI (gs : List GT) (pub vars : Int) (out : LU0) (z : Int) : LState := { n := 92, sl := [(1, .p 4 0), (4, .p 20 0), (36, .sz 0 gs.length), (37, vi0 ((gs.length : Nat) : Int)), (38, vi0 z)], hp := [(0, .rz [.l (gsC gs)]), (4, .own [.sz 0 gs.length, ci0 pub, ci0 vars] 49), (20, .own [.sx 56 out.length, ci0 0] 159), (56, .gr [.y out] 5 1)] }
def pcJ (gs : List GT) (pub vars : Int) : LState := { n := 92, sl := [(1, .p 4 0), (4, .p 20 0), (36, .sz 0 gs.length), (37, vi0 ((gs.length : Nat) : Int)), (38, vi0 0)], hp := [(0, .rz [.l (gsC gs)]), (4, .own [.sz 0 gs.length, ci0 pub, ci0 vars] 49), (20, .own [.sx 56 (4 + (ofL (hdU gs pub vars)).size), ci0 0] 159), (56, .gr [.y mgC, .y (hdU gs pub vars)] 5 1)] }
def pcE (out : LU0) : LState := { n := 92, sl := [(4, .p 20 0)], hp := [(20, .own [.sx 56 out.length, ci0 0] 159), (56, .gr [.y out] 5 1)] }
theorem DO (gs : List GT) (pub vars : Int) : outC gs pub vars 0 = mgC ++ hdC gs pub vars := by unfold outC; simp
theorem Ws (gs : List GT) (pub vars : Int) : 4 + (ofL (hdU gs pub vars)).size = (outC gs pub vars 0).length := by rw [DO, J8]; rfl
theorem rp (l : LU0) : flat [.y l] = l.map qK := by simp [flat, Ch.cells]
theorem O1 (gs : List GT) (pub vars : Int) : flat [.y mgC, .y (hdU gs pub vars)] = flat [.y (outC gs pub vars 0)] := by
 rw [DO, J8, rp]; simp [flat, Ch.cells]
theorem aaW (gs : List GT) (pub vars : Int) : qw (pcJ gs pub vars).aa (pcI gs pub vars (outC gs pub vars 0) ((0 : Nat) : Int)) [] := by
 have e : qw (pcJ gs pub vars).aa (pcI gs pub vars (outC gs pub vars 0) ((0 : Nat) : Int)) [] = (((Lx 0) /\ (Lx 0) /\ (true = true /\ gs.length = gs.length) /\ (Value.int .i64 ((gs.length : Nat) : Int)) = (Value.int .i64 ((gs.length : Nat) : Int)) /\ (Value.int .i64 0) = (Value.int .i64 ((0 : Nat) : Int)) /\ True) /\ (flat [.l (gsC gs)] = flat [.l (gsC gs)] /\ (49 = 49 /\ (true = true /\ gs.length = gs.length) /\ (Ej (.int .i64 pub)) /\ (Ej (.int .i64 vars)) /\ True) /\ (159 = 159 /\ (true = true /\ 4 + (ofL (hdU gs pub vars)).size = (outC gs pub vars 0).length) /\ (Ej (.int .i64 0)) /\ True) /\ ((5 = 5 /\ 1 = 1) /\ flat [.y mgC, .y (hdU gs pub vars)] = flat [.y (outC gs pub vars 0)]) /\ True)) := by kernel_rfl
 rw [e]
 exact ⟨⟨rr0, rr0, rr0, rfl, rfl, tt0⟩, ⟨rfl, ⟨rfl, rr0, r30, r30, tt0⟩, ⟨rfl, ⟨rfl, Ws gs pub vars⟩, r30, tt0⟩, ⟨rr0, O1 gs pub vars⟩, tt0⟩⟩
theorem Rm (g : GT) : (ofL (gS g)).size = 160 := Em g
theorem vP (w : Int) : (ofL (b4 .u32 (IntKind.u32.wrap w))).size = 4 := rfl
theorem Mj (g : GT) : (gS g).length = (ofL (gS g)).size := rfl
theorem Mo (w : Int) : (b4 .u32 (IntKind.u32.wrap w)).length = (ofL (b4 .u32 (IntKind.u32.wrap w))).size := rfl
theorem UT (gs : List GT) (pub vars : Int) (i : Nat) (g : GT) (hg : gs[i]? = some g) : (outC gs pub vars i).length + (ofL (gS g)).size + (ofL (b4 .u32 (IntKind.u32.wrap g.w0))).size + (ofL (b4 .u32 (IntKind.u32.wrap g.w1))).size + (ofL (b4 .u32 (IntKind.u32.wrap g.w2))).size = (outC gs pub vars (i + 1)).length := by
 rw [Ei hg, List.length_append, EU, Rm, vP, vP, vP]
theorem S1 (gs : List GT) (pub vars : Int) (i : Nat) (g : GT) (hg : gs[i]? = some g) : flat [.y (outC gs pub vars i), .y (gS g), .y (b4 .u32 (IntKind.u32.wrap g.w0)), .y (b4 .u32 (IntKind.u32.wrap g.w1)), .y (b4 .u32 (IntKind.u32.wrap g.w2))] = flat [.y (outC gs pub vars (i + 1))] := by
 rw [Ei hg, rp]
 unfold gB
 rw [← w7 g.w0, ← w7 g.w1, ← w7 g.w2]
 simp [flat, Ch.cells]
def Ls : Ora := { ch := 0, hi := fun _ => 0, ex := 1 }
theorem Qn (gs : List GT) (pub vars : Int) (hm : gs.length <= 4096) (i : Nat) (g : GT) (hg : gs[i]? = some g) (hs : smG g) (hc : xK g) : Sound prog 0 false (pS f18 0) (pcI gs pub vars (outC gs pub vars i) (i : Int)).aa .normal (pcI gs pub vars (outC gs pub vars (i + 1)) ((i + 1 : Nat) : Int)).aa := by
 have hi := glt hg
 exact qT (P := prog) (X := pN _) (env := [vA, uM, wR]) ⟨u7, te, sU, tt0⟩ (n := 1) (os := oL [(64, wT), (65, rO 14 i), (66, (QM g)), (80, wO 0), (89, rO 6 0), (93, rO 6 0), (97, rO 6 0), (101, rO 6 0), (119, Ls), (150, Ls), (180, Ls), (210, Ls)]) (fb := 0) (rd := false) (c := (pS f18 0)) (k := 64) (I := pcI gs pub vars (outC gs pub vars i) (i : Int)) (J := pcI gs pub vars (outC gs pub vars (i + 1)) ((i + 1 : Nat) : Int)) (τ := [(56, 210)]) (ex := .normal) (by kernel_rfl) (ai (show ((Lx 0) /\ (Lx 0) /\ (true = true /\ gs.length = gs.length) /\ (Value.int .i64 ((gs.length : Nat) : Int)) = (Value.int .i64 ((gs.length : Nat) : Int)) /\ (Value.int .i64 (IntKind.i64.wrap ((i : Int) + 1))) = (Value.int .i64 ((i + 1 : Nat) : Int)) /\ True) /\ (flat [.l (gsC gs)] = flat [.l (gsC gs)] /\ (49 = 49 /\ (true = true /\ gs.length = gs.length) /\ (Ej (.int .i64 pub)) /\ (Ej (.int .i64 vars)) /\ True) /\ (159 = 159 /\ (true = true /\ (outC gs pub vars i).length + (ofL (gS g)).size + (ofL (b4 .u32 (IntKind.u32.wrap g.w0))).size + (ofL (b4 .u32 (IntKind.u32.wrap g.w1))).size + (ofL (b4 .u32 (IntKind.u32.wrap g.w2))).size = (outC gs pub vars (i + 1)).length) /\ (Ej (.int .i64 0)) /\ True) /\ ((5 = 5 /\ 1 = 1) /\ flat [.y (outC gs pub vars i), .y (gS g), .y (b4 .u32 (IntKind.u32.wrap g.w0)), .y (b4 .u32 (IntKind.u32.wrap g.w1)), .y (b4 .u32 (IntKind.u32.wrap g.w2))] = flat [.y (outC gs pub vars (i + 1))]) /\ True) from ⟨⟨rr0, rr0, rr0, rfl, by rw [show IntKind.i64.wrap ((i : Int) + 1) = ((i + 1 : Nat) : Int) by rw [p6]; omega], tt0⟩, ⟨rfl, ⟨rfl, rr0, r30, r30, tt0⟩, ⟨rfl, ⟨rfl, UT gs pub vars i g hg⟩, r30, tt0⟩, ⟨rr0, S1 gs pub vars i g hg⟩, tt0⟩⟩) (ai (show qd [.y (outC gs pub vars i), .y (gS g), .y (b4 .u32 (IntKind.u32.wrap g.w0)), .y (b4 .u32 (IntKind.u32.wrap g.w1))] = ((outC gs pub vars i).length + (ofL (gS g)).size + (ofL (b4 .u32 (IntKind.u32.wrap g.w0))).size + (ofL (b4 .u32 (IntKind.u32.wrap g.w1))).size) * 1 /\ (outC gs pub vars i).length + (ofL (gS g)).size + (ofL (b4 .u32 (IntKind.u32.wrap g.w0))).size + (ofL (b4 .u32 (IntKind.u32.wrap g.w1))).size + (ofL (b4 .u32 (IntKind.u32.wrap g.w2))).size <= 9223372036854775807 /\ ((outC gs pub vars i).length + (ofL (gS g)).size + (ofL (b4 .u32 (IntKind.u32.wrap g.w0))).size + (ofL (b4 .u32 (IntKind.u32.wrap g.w1))).size + (ofL (b4 .u32 (IntKind.u32.wrap g.w2))).size) * 1 <= 140737488355328 /\ True from by
    have h1 := vj gs pub vars i
    have h2 := Rm g
    have h3 := vP g.w0
    have h4 := vP g.w1
    have h5 := vP g.w2
    refine ⟨?_, ?_, ?_, tt0⟩ <;> (try simp only [qd, Ch.size, Mj, Mo]) <;> omega) (ai (show qd [.y (outC gs pub vars i), .y (gS g), .y (b4 .u32 (IntKind.u32.wrap g.w0))] = ((outC gs pub vars i).length + (ofL (gS g)).size + (ofL (b4 .u32 (IntKind.u32.wrap g.w0))).size) * 1 /\ (outC gs pub vars i).length + (ofL (gS g)).size + (ofL (b4 .u32 (IntKind.u32.wrap g.w0))).size + (ofL (b4 .u32 (IntKind.u32.wrap g.w1))).size <= 9223372036854775807 /\ ((outC gs pub vars i).length + (ofL (gS g)).size + (ofL (b4 .u32 (IntKind.u32.wrap g.w0))).size + (ofL (b4 .u32 (IntKind.u32.wrap g.w1))).size) * 1 <= 140737488355328 /\ True from by
    have h1 := vj gs pub vars i
    have h2 := Rm g
    have h3 := vP g.w0
    have h4 := vP g.w1
    have h5 := vP g.w2
    refine ⟨?_, ?_, ?_, tt0⟩ <;> (try simp only [qd, Ch.size, Mj, Mo]) <;> omega) (ai (show qd [.y (outC gs pub vars i), .y (gS g)] = ((outC gs pub vars i).length + (ofL (gS g)).size) * 1 /\ (outC gs pub vars i).length + (ofL (gS g)).size + (ofL (b4 .u32 (IntKind.u32.wrap g.w0))).size <= 9223372036854775807 /\ ((outC gs pub vars i).length + (ofL (gS g)).size + (ofL (b4 .u32 (IntKind.u32.wrap g.w0))).size) * 1 <= 140737488355328 /\ True from by
    have h1 := vj gs pub vars i
    have h2 := Rm g
    have h3 := vP g.w0
    have h4 := vP g.w1
    have h5 := vP g.w2
    refine ⟨?_, ?_, ?_, tt0⟩ <;> (try simp only [qd, Ch.size, Mj, Mo]) <;> omega) (ai (show qd [.y (outC gs pub vars i)] = ((outC gs pub vars i).length) * 1 /\ (outC gs pub vars i).length + (ofL (gS g)).size <= 9223372036854775807 /\ ((outC gs pub vars i).length + (ofL (gS g)).size) * 1 <= 140737488355328 /\ True from by
    have h1 := vj gs pub vars i
    have h2 := Rm g
    have h3 := vP g.w0
    have h4 := vP g.w1
    have h5 := vP g.w2
    refine ⟨?_, ?_, ?_, tt0⟩ <;> (try simp only [qd, Ch.size, Mj, Mo]) <;> omega) (ai (show (ofL ((((qL g.q0 ++ qL g.q1) ++ qL g.q2) ++ qL g.q3))).size + (ofL (qL g.q4)).size <= 9223372036854775807 from by show ((((qL g.q0 ++ qL g.q1) ++ qL g.q2) ++ qL g.q3)).length + (qL g.q4).length <= _; simp [rE]) (ai (show DG (.inr g.q4) from hs g.q4 (by simp [gN])) (ai (show (ofL (((qL g.q0 ++ qL g.q1) ++ qL g.q2))).size + (ofL (qL g.q3)).size <= 9223372036854775807 from by show (((qL g.q0 ++ qL g.q1) ++ qL g.q2)).length + (qL g.q3).length <= _; simp [rE]) (ai (show DG (.inr g.q3) from hs g.q3 (by simp [gN])) (ai (show (ofL ((qL g.q0 ++ qL g.q1))).size + (ofL (qL g.q2)).size <= 9223372036854775807 from by show ((qL g.q0 ++ qL g.q1)).length + (qL g.q2).length <= _; simp [rE]) (ai (show DG (.inr g.q2) from hs g.q2 (by simp [gN])) (ai (show (ofL (qL g.q0)).size + (ofL (qL g.q1)).size <= 9223372036854775807 from by show (qL g.q0).length + (qL g.q1).length <= _; simp [rE]) (ai (show DG (.inr g.q1) from hs g.q1 (by simp [gN])) (ai (show DG (.inr g.q0) from hs g.q0 (by simp [gN])) (ai (show [g.q0, g.q1, g.q2, g.q3, g.q4].length <= 1000000 /\ sm4 [g.q0, g.q1, g.q2, g.q3, g.q4] /\ rB [g.q0, g.q1, g.q2, g.q3, g.q4] from ⟨by simp, hs, hc⟩) (ai (uq gs i g hg) (ai (show (i : Int) = ((i : Nat) : Int) /\ i < gs.length from ⟨rfl, hi⟩) (ai (show decide ((i : Int) < ((gs.length : Nat) : Int)) = true from decide_eq_true (by omega)) tt0))))))))))))))))))
theorem Yg (gs : List GT) (pub vars : Int) (out : LU0) : Sound prog 0 false (pS f18 0) (pcI gs pub vars out ((gs.length : Nat) : Int)).aa (.exit 0) (pcE out).aa :=
 QK [(64, wF)] 64 [4] [20, 56] (ai (show decide (((gs.length : Nat) : Int) < ((gs.length : Nat) : Int)) = false from decide_eq_false (by omega)) tt0)
theorem Zx (gs : List GT) (pub vars : Int) (hm : gs.length <= 4096) (hs : ∀ g, g ∈ gs -> smG g) (hc : ∀ g, g ∈ gs -> xK g) : Sound prog 0 false (.loop (pS f18 0)) (pcI gs pub vars (outC gs pub vars 0) ((0 : Nat) : Int)).aa (.exit 0) (pcE (outC gs pub vars gs.length)).aa := by
 refine qk (m := fun y : { i : Nat // i <= gs.length } => gs.length - y.val) (fun y => pcI gs pub vars (outC gs pub vars y.val) (y.val : Int)) (by simp) (fun y => ?_) ⟨0, by omega⟩
 obtain ⟨i, hi⟩ := y
 by_cases e : i < gs.length
 ·obtain ⟨g, hg⟩ := gof e
  exact .inl ⟨⟨i + 1, e⟩, by show gs.length - (i + 1) < gs.length - i; omega, Qn gs pub vars hm i g hg (hs g (V7 hg)) (hc g (V7 hg))⟩
 ·have e : i = gs.length := by omega
  subst e
  exact .inr (Yg gs pub vars _)
theorem abp (gs : List GT) (pub vars : Int) (h : uh gs pub vars) (hv : ¬ vars > 2147483647) (hs : ∀ g, g ∈ gs -> smG g) (hc : ∀ g, g ∈ gs -> xK g) : Gives prog 18 [.ags [.z [.l (gsC gs)] gs.length, .c (ci0 pub), .c (ci0 vars)]] (.tp [.v (.string (ofL (outC gs pub vars gs.length))), vi0 0]) :=
 pL (P := prog) (X := pN _) (env := [vA, uM, wR]) ⟨u7, te, sU, tt0⟩ func18 1 (oL [(8, { ch := 0, hi := fun _ => 0, ex := 7, av := fun _ => .v (.bool true) }), (13, wF), (18, { ch := 0, hi := fun _ => 0, ex := 2, cs := fun _ => [.y mgC] }), (33, rO 6 0), (38, rO 6 0), (64, lpO { I := pcJ gs pub vars, ex := .exit 0, E := pcE (outC gs pub vars gs.length), fr := 65 }), (78, { ch := 0, hi := fun _ => 0, ru := 10, av := fun _ => .v (.string (ofL (outC gs pub vars gs.length))) })]) (by kernel_rfl) ⟨_, rfl⟩ (ai (show (flat [.y (outC gs pub vars gs.length)]).take (outC gs pub vars gs.length).length = (ofL (outC gs pub vars gs.length)).data.toList.map qK /\ (outC gs pub vars gs.length).length = (ofL (outC gs pub vars gs.length)).size from ⟨by rw [rp, List.take_of_length_le (by simp)]; rfl, rfl⟩) (ai (show some (pcJ gs pub vars) = some (pcJ gs pub vars) from rfl) (ai ((Zx gs pub vars h.1 hs hc).pre [] (by kernel_rfl) (aaW gs pub vars)) (ai (show (ofL (b4 .u32 (IntKind.u32.wrap (gs.length : Nat)) ++ b4 .u32 (IntKind.u32.wrap pub))).size + (ofL (b4 .u32 (IntKind.u32.wrap vars))).size <= 9223372036854775807 from by rw [vP]; show 8 + 4 <= _; decide) (ai (show (ofL (b4 .u32 (IntKind.u32.wrap (gs.length : Nat)))).size + (ofL (b4 .u32 (IntKind.u32.wrap pub))).size <= 9223372036854775807 from by rw [vP, vP]; decide) (ai (show flat [.y mgC] = (ofL mgC).data.toList.map qK from rp mgC) (ai (show decide (vars > 2147483647) = false from decide_eq_false hv) (ai (show rP prog 36 [.ags [.z [.l (gsC gs)] gs.length, .c (ci0 pub), .c (ci0 vars)]] (.v (.bool true)) from ⟨fun vs w => Go.Proofs.enters_of (P := prog) func36 (by kernel_rfl) rfl vs w, OW gs pub vars h⟩) tt0))))))))
end Go.Proofs.YtokjhbmmdmeafaaGreat
