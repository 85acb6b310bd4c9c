/- Pruned: Gc. -/
import Derived.Test.YtokjhbmmdmeafaaGreatQGb
import Derived.Test.YtokjhbmmdmeafaaGreatQGr
import Derived.Test.YtokjhbmmdmeafaaGreatQGa
import Derived.Test.YtokjhbmmdmeafaaGreatQHc
import Derived.WalkKit
import Derived.RegionTactic
import Derived.ChangeAlike
import Derived.Laws.BytesString
set_option linter.unusedSimpArgs false
set_option linter.unusedVariables false
namespace Go.Proofs.YtokjhbmmdmeafaaGreat
open Go.Ev Go.RowKit
open Tryz
def pc1 (p : Pt1) : List Ch := [.m (p).1, .m (p).2.1, .m (p).2.2]
def Dm : Par Pt1 := (vh.pair (vh.pair vh))
def wR : Entry := rS
theorem sg : wR.OK prog := qH
theorem Mr (p : Pt1) (h : p.2.2 = 0) : Gives prog 92 [.t (.ag (pc1 p))] (.ag (pc1 (rJ p))) := by
 unfold rJ
 rw [if_pos h]
 exact pq (P := prog) (env := [wR, qE, qU, qa]) ⟨sg, pW, ql, pR, tt0⟩ func92 0 (oL [(5, wO 0)]) (by kernel_rfl) (ai h tt0)
theorem QG (p : Pt1) (h : p.2.2 ≠ 0) : Gives prog 92 [.t (.ag (pc1 p))] (.ag (pc1 (rJ p))) := by
 unfold rJ
 rw [if_neg h]
 exact pq (P := prog) (env := [wR, qE, qU, qa]) ⟨sg, pW, ql, pR, tt0⟩ func92 0 (oL [(5, wO 1)]) (by kernel_rfl) (ai h tt0)
def s6 : Entry := pS 92 Dm.x (fun p => [(none, .ag (pc1 (rJ p)))])
theorem rl : s6.OK prog := pE (fun args w => Go.Proofs.enters_of (P := prog) func92 (by kernel_rfl) rfl args w) (fun p => only (by
 by_cases h : p.2.2 = 0
 ·exact Mr p h
 ·exact QG p h))
theorem Yq (p q : Pt1) : Gives prog 91 [.t (.ag (pc1 p)), .t (.ag (pc1 q))] (.ag (pc1 (yn p q))) := by
 unfold yn
 by_cases h1 : p.2.2 = 0
 ·rw [if_pos h1]
  exact pq (P := prog) (env := [wR, s6, qE, qU, qa]) ⟨sg, rl, pW, ql, pR, tt0⟩ func91 0 (oL [(6, wO 0)]) (by kernel_rfl) (ai h1 tt0)
 ·rw [if_neg h1]
  by_cases h2 : q.2.2 = 0
  ·rw [if_pos h2]
   exact pq (P := prog) (env := [wR, s6, qE, qU, qa]) ⟨sg, rl, pW, ql, pR, tt0⟩ func91 0 (oL [(6, wO 1), (11, wO 0)]) (by kernel_rfl) (ai h2 (ai h1 tt0))
  ·rw [if_neg h2]
   by_cases h3 : hP1 p q = 0
   ·rw [if_pos h3]
    by_cases h4 : rP1 p q = 0
    ·rw [if_pos h4]
     exact pq (P := prog) (env := [wR, s6, qE, qU, qa]) ⟨sg, rl, pW, ql, pR, tt0⟩ func91 0 (oL [(6, wO 1), (11, wO 1), (79, wO 0), (82, wO 0)]) (by kernel_rfl) (ai h4 (ai h3 (ai h2 (ai h1 tt0))))
    ·rw [if_neg h4]
     refine Gives.same (r := .ag ([.m p.1, .m p.2.1, .c (.int .u64 0), .c (.int .u64 0), .c (.int .u64 0), .c (.int .u64 0), .c (.int .u64 0), .c (.int .u64 0)])) (pq (P := prog) (env := [wR, s6, qE, qU, qa]) ⟨sg, rl, pW, ql, pR, tt0⟩ func91 0 (oL [(6, wO 1), (11, wO 1), (79, wO 0), (82, wO 1)]) (by kernel_rfl) (ai h4 (ai h3 (ai h2 (ai h1 tt0))))) (qV rfl rfl ?_)
     show flat ([.m p.1, .m p.2.1] ++ [.m (0 : Fin Pp)]) = flat ([.m p.1, .m p.2.1] ++ [.c (.int .u64 0), .c (.int .u64 0), .c (.int .u64 0), .c (.int .u64 0), .c (.int .u64 0), .c (.int .u64 0)])
     rw [pO, pO, x6]
   ·rw [if_neg h3]
    exact pq (P := prog) (env := [wR, s6, qE, qU, qa]) ⟨sg, rl, pW, ql, pR, tt0⟩ func91 0 (oL [(6, wO 1), (11, wO 1), (79, wO 1)]) (by kernel_rfl) (ai h3 (ai h2 (ai h1 tt0)))
def yw : Entry := r6 91 Dm.x Dm.x (fun p q => [(none, .ag (pc1 (yn p q)))])
theorem vk : yw.OK prog := qw (fun args w => Go.Proofs.enters_of (P := prog) func91 (by kernel_rfl) rfl args w) (fun p q => only (Yq p q))
def Bm (p : Pt1) : List Ch := [.m p.1, .m p.2.1, .c (.int .u64 0), .c (.int .u64 0), .c (.int .u64 0), .c (.int .u64 0), .c (.int .u64 0), .c (.int .u64 0), .m (pX p 1).1, .m (pX p 1).2.1, .m (pX p 1).2.2, .m (pX p 2).1, .m (pX p 2).2.1, .m (pX p 2).2.2, .m (pX p 3).1, .m (pX p 3).2.1, .m (pX p 3).2.2, .m (pX p 4).1, .m (pX p 4).2.1, .m (pX p 4).2.2, .m (pX p 5).1, .m (pX p 5).2.1, .m (pX p 5).2.2, .m (pX p 6).1, .m (pX p 6).2.1, .m (pX p 6).2.2, .m (pX p 7).1, .m (pX p 7).2.1, .m (pX p 7).2.2, .m (pX p 8).1, .m (pX p 8).2.1, .m (pX p 8).2.2, .m (pX p 9).1, .m (pX p 9).2.1, .m (pX p 9).2.2, .m (pX p 10).1, .m (pX p 10).2.1, .m (pX p 10).2.2, .m (pX p 11).1, .m (pX p 11).2.1, .m (pX p 11).2.2, .m (pX p 12).1, .m (pX p 12).2.1, .m (pX p 12).2.2, .m (pX p 13).1, .m (pX p 13).2.1, .m (pX p 13).2.2, .m (pX p 14).1, .m (pX p 14).2.1, .m (pX p 14).2.2, .m (pX p 15).1, .m (pX p 15).2.1, .m (pX p 15).2.2]
theorem ME (p : Pt1) : (flat (pc1 p)).length = 18 := by rw [uj]; rfl
theorem Hx (p : Pt1) : flat (Bm p) = (List.range 16).flatMap (fun j => flat (pc1 (pX p j))) := by
 have e0 : flat (pc1 (pX p 0)) = flat [.m p.1, .m p.2.1, .c (.int .u64 0), .c (.int .u64 0), .c (.int .u64 0), .c (.int .u64 0), .c (.int .u64 0), .c (.int .u64 0)] := by
  show flat ([.m p.1, .m p.2.1] ++ [.m (0 : Fin Pp)]) = flat ([.m p.1, .m p.2.1] ++ [.c (.int .u64 0), .c (.int .u64 0), .c (.int .u64 0), .c (.int .u64 0), .c (.int .u64 0), .c (.int .u64 0)])
  rw [pO, pO, x6]
 have e1 : Bm p = [.m p.1, .m p.2.1, .c (.int .u64 0), .c (.int .u64 0), .c (.int .u64 0), .c (.int .u64 0), .c (.int .u64 0), .c (.int .u64 0)] ++ (pc1 (pX p 1) ++ (pc1 (pX p 2) ++ (pc1 (pX p 3) ++ (pc1 (pX p 4) ++ (pc1 (pX p 5) ++ (pc1 (pX p 6) ++ (pc1 (pX p 7) ++ (pc1 (pX p 8) ++ (pc1 (pX p 9) ++ (pc1 (pX p 10) ++ (pc1 (pX p 11) ++ (pc1 (pX p 12) ++ (pc1 (pX p 13) ++ (pc1 (pX p 14) ++ pc1 (pX p 15))))))))))))))) := rfl
 rw [e1]
 simp only [pO, ← e0]
 simp [List.range_succ_eq_map, List.flatMap]
theorem FO (p : Pt1) (j : Nat) (h : j < 16) : ((flat (Bm p)).drop (0 + j * 18)).take 18 = flat (pc1 (pX p j)) := by
 rw [Nat.zero_add, Hx]
 exact yb (fun j => flat (pc1 (pX p j))) 18 (fun j => ME _) 16 j h
def uz (r : Array Tmp × Code × Code) (p : Pt1) (k : Nat) (b : Bool) (z : Int) (o : List Ch) : LState := { n := 32, sl := [(0, .yd 235), (1, .p 230 0), (3, .v (.bool b)), (4, vi0 z)], hp := [(0, .own (pc1 p) 119), (1, .own [.n 4 k] 28), (2, .own [.c (.int .u64 0), .c (.int .u64 0), .c (.int .u64 0), .c (.int .u64 0), .c (.int .u64 0), .c (.int .u64 0), .c (.int .u64 0), .c (.int .u64 0), .c (.int .u64 0), .c (.int .u64 0), .c (.int .u64 0), .c (.int .u64 0), .c (.int .u64 0), .c (.int .u64 0), .c (.int .u64 0), .c (.int .u64 0), .c (.int .u64 0), .c (.int .u64 0)] 119), (3, .own (Bm p) 170), (226, .own o 119), (230, .own [.n 4 k] 28), (234, .dfd),
 (235, .lp .ready none ⟨43, .any, trOf [(5, .p 3 0), (7, .p 226 0)]⟩ r.1 r.2.1 r.2.2 234)] }
def LT (r : Array Tmp × Code × Code) (p : Pt1) (k : Nat) (o : List Ch) : LState := { n := 32, sl := [], hp := [(0, .own (pc1 p) 119), (1, .own [.n 4 k] 28), (2, .own [.c (.int .u64 0), .c (.int .u64 0), .c (.int .u64 0), .c (.int .u64 0), .c (.int .u64 0), .c (.int .u64 0), .c (.int .u64 0), .c (.int .u64 0), .c (.int .u64 0), .c (.int .u64 0), .c (.int .u64 0), .c (.int .u64 0), .c (.int .u64 0), .c (.int .u64 0), .c (.int .u64 0), .c (.int .u64 0), .c (.int .u64 0), .c (.int .u64 0)] 119), (3, .own (Bm p) 170), (226, .own o 119), (230, .own [.n 4 k] 28), (234, .dfd),
 (235, .lp .ready none ⟨43, .any, trOf [(5, .p 3 0), (7, .p 226 0)]⟩ r.1 r.2.1 r.2.2 234)] }
theorem Xo (p q : Pt1) (k i : Nat) (hi : i < 64)  : Sound prog 236 false (pI f117 0) (uz (pD f54 0) p k true ((((i + 1 : Nat) : Int)) - 1) (pc1 q)).aa .normal (uz (pD f54 0) p k true (((i : Nat) : Int) - 1) (pc1 (yn (rJ (rJ (rJ (rJ q)))) (pX p (dig k i))))).aa := by
 have hs := pG (P := prog) (X := qz _) (env := [s6, yw]) ⟨rl, vk, tt0⟩ (n := 2) (os := oL [(239, wO 1), (242, rO 2 (i / 16)), (243, rO 3 0), (247, rO 4 (4 * (i % 16))), (249, { ch := 1, hi := fun _ => dig k i }), (291, rO 2 (dig k i)), (292, { ch := 0, hi := fun _ => 0, ru := 8, cs := fun _ => pc1 (pX p (dig k i)) })]) (fb := 236) (rd := false) (c := pI f117 0) (k := 238) (I := uz (pD f54 0) p k true ((((i + 1 : Nat) : Int)) - 1) (pc1 q)) (sk := [0, 1, 3, 4]) (hk := [0, 1, 2, 3, 226, 230, 234, 235]) (lk := [(235, [5, 7])]) (ex := .normal)
  (L := uz (pD f54 0) p k true (IntKind.i64.wrap ((((i + 1 : Nat) : Int) - 1) - 1)) (pc1 (yn (rJ (rJ (rJ (rJ q)))) (pX p (dig k i))))) (by kernel_rfl) (ai (show rH (pc1 (pX p (dig k i))) = 18 /\ ((flat (Bm p)).drop (0 + dig k i * 18)).take 18 = flat (pc1 (pX p (dig k i))) from ⟨rfl, FO p _ (vK k i)⟩) (ai (show ((dig k i : Nat) : Int) = ((dig k i : Nat) : Int) /\ dig k i < 16 from ⟨rfl, vK k i⟩) (ai (zg k i) (ai (yP i) (ai (show 0 + i / 16 * 1 < 4 from by omega) (ai (yU i hi) (ai (show decide (((((i + 1 : Nat) : Int)) - 1) >= 0) = true from decide_eq_true (by omega)) tt0)))))))
 rw [show IntKind.i64.wrap ((((i + 1 : Nat) : Int) - 1) - 1) = ((i : Nat) : Int) - 1 by rw [pN]; omega] at hs
 exact hs
theorem Zc (p q : Pt1) (k i : Nat) (hi : i < 64) (hd : ((dig k i : Nat) : Int) > 0) : Sound prog 236 false (pI f117 0) (uz (pD f54 0) p k false ((((i + 1 : Nat) : Int)) - 1) (pc1 q)).aa .normal (uz (pD f54 0) p k true (((i : Nat) : Int) - 1) (pc1 (yn (rJ (rJ (rJ (rJ q)))) (pX p (dig k i))))).aa := by
 have hs := pG (P := prog) (X := qz _) (env := [s6, yw]) ⟨rl, vk, tt0⟩ (n := 2) (os := oL [(239, wO 1), (242, rO 2 (i / 16)), (243, rO 3 0), (247, rO 4 (4 * (i % 16))), (249, { ch := 1, hi := fun _ => dig k i }), (254, wO 1), (291, rO 2 (dig k i)), (292, { ch := 0, hi := fun _ => 0, ru := 8, cs := fun _ => pc1 (pX p (dig k i)) })]) (fb := 236) (rd := false) (c := pI f117 0) (k := 238) (I := uz (pD f54 0) p k false ((((i + 1 : Nat) : Int)) - 1) (pc1 q)) (sk := [0, 1, 3, 4]) (hk := [0, 1, 2, 3, 226, 230, 234, 235]) (lk := [(235, [5, 7])]) (ex := .normal)
  (L := uz (pD f54 0) p k true (IntKind.i64.wrap ((((i + 1 : Nat) : Int) - 1) - 1)) (pc1 (yn (rJ (rJ (rJ (rJ q)))) (pX p (dig k i))))) (by kernel_rfl) (ai (show rH (pc1 (pX p (dig k i))) = 18 /\ ((flat (Bm p)).drop (0 + dig k i * 18)).take 18 = flat (pc1 (pX p (dig k i))) from ⟨rfl, FO p _ (vK k i)⟩) (ai (show ((dig k i : Nat) : Int) = ((dig k i : Nat) : Int) /\ dig k i < 16 from ⟨rfl, vK k i⟩) (ai (show decide (((dig k i : Nat) : Int) > 0) = true from decide_eq_true hd) (ai (zg k i) (ai (yP i) (ai (show 0 + i / 16 * 1 < 4 from by omega) (ai (yU i hi) (ai (show decide (((((i + 1 : Nat) : Int)) - 1) >= 0) = true from decide_eq_true (by omega)) tt0))))))))
 rw [show IntKind.i64.wrap ((((i + 1 : Nat) : Int) - 1) - 1) = ((i : Nat) : Int) - 1 by rw [pN]; omega] at hs
 exact hs
theorem Zq (p q : Pt1) (k i : Nat) (hi : i < 64) (hd : ¬ ((dig k i : Nat) : Int) > 0) : Sound prog 236 false (pI f117 0) (uz (pD f54 0) p k false ((((i + 1 : Nat) : Int)) - 1) (pc1 q)).aa .normal (uz (pD f54 0) p k false (((i : Nat) : Int) - 1) (pc1 q)).aa := by
 have hs := pG (P := prog) (X := qz _) (env := [s6, yw]) ⟨rl, vk, tt0⟩ (n := 2) (os := oL [(239, wO 1), (242, rO 2 (i / 16)), (243, rO 3 0), (247, rO 4 (4 * (i % 16))), (249, { ch := 1, hi := fun _ => dig k i }), (254, wO 2)]) (fb := 236) (rd := false) (c := pI f117 0) (k := 238) (I := uz (pD f54 0) p k false ((((i + 1 : Nat) : Int)) - 1) (pc1 q)) (sk := [0, 1, 3, 4]) (hk := [0, 1, 2, 3, 226, 230, 234, 235]) (lk := [(235, [5, 7])]) (ex := .normal)
  (L := uz (pD f54 0) p k false (IntKind.i64.wrap ((((i + 1 : Nat) : Int) - 1) - 1)) (pc1 q)) (by kernel_rfl) (ai (show decide (((dig k i : Nat) : Int) > 0) = false from decide_eq_false hd) (ai (zg k i) (ai (yP i) (ai (show 0 + i / 16 * 1 < 4 from by omega) (ai (yU i hi) (ai (show decide (((((i + 1 : Nat) : Int)) - 1) >= 0) = true from decide_eq_true (by omega)) tt0))))))
 rw [show IntKind.i64.wrap ((((i + 1 : Nat) : Int) - 1) - 1) = ((i : Nat) : Int) - 1 by rw [pN]; omega] at hs
 exact hs
def Mg := PLift.up (ai (show decide ((((0 : Nat) : Int) - 1) >= 0) = false from by decide) tt0)
theorem Rf (p q : Pt1) (k : Nat) (b : Bool) : Sound prog 236 false (pI f117 0) (uz (pD f54 0) p k b (((0 : Nat) : Int) - 1) (pc1 q)).aa (.exit 0) (LT (pD f54 0) p k (pc1 q)).aa :=
 pG (P := prog) (X := qz _) (env := []) trivial (n := 2) (os := oL [(239, wO 2)]) (fb := 236) (rd := false) (c := pI f117 0) (k := 238) (I := uz (pD f54 0) p k b (((0 : Nat) : Int) - 1) (pc1 q)) (sk := []) (hk := [0, 1, 2, 3, 226, 230, 234, 235]) (lk := [(235, [5, 7])]) (ex := .exit 0)
  (L := LT (pD f54 0) p k (pc1 q)) (by kernel_rfl) Mg.down
theorem MW (p : Pt1) (k : Nat) (hk : k < 115792089237316195423570985008687907853269984665640564039457584007913129639936) (y : { i : Nat // i <= 64 }) : Sound prog 236 false (.loop (pI f117 0)) (uz (pD f54 0) p k (bgn k (64 - y.val)) (((y.val : Nat) : Int) - 1) (pc1 (vU p k (64 - y.val)))).aa (.exit 0) (LT (pD f54 0) p k (pc1 (vU p k 64))).aa := by
 refine qr (m := fun y : { i : Nat // i <= 64 } => y.val) (fun y => uz (pD f54 0) p k (bgn k (64 - y.val)) (((y.val : Nat) : Int) - 1) (pc1 (vU p k (64 - y.val)))) (by simp) (fun y => ?_) y
 obtain ⟨i, hi⟩ := y
 cases i with
 | zero => exact .inr (Rf p _ k _)
 | succ i =>
  refine .inl ⟨⟨i, by omega⟩, Nat.lt_succ_self i, ?_⟩
  have e1 : 64 - i = (64 - (i + 1)) + 1 := by omega
  have e2 : 63 - (64 - (i + 1)) = i := by omega
  have hb := At k (64 - (i + 1)) (by omega)
  rw [e2, ← e1] at hb
  have hm : vU p k (64 - i) = yn (rJ (rJ (rJ (rJ (vU p k (64 - (i + 1))))))) (pX p (dig k i)) := by
   rw [e1]
   show yn _ (pX p (dig k (63 - (64 - (i + 1))))) = _
   rw [e2]
  simp only
  rw [hm]
  cases hc : bgn k (64 - (i + 1)) with
  | true =>
   rw [hc] at hb
   simp only [Bool.true_or] at hb
   rw [hb]
   exact Xo p _ k i (by omega)
  | false =>
   rw [hc] at hb
   simp only [Bool.false_or] at hb
   by_cases hd : ((dig k i : Nat) : Int) > 0
   ·rw [hb, decide_eq_true (by omega)]
    exact Zc p _ k i (by omega) hd
   ·have h0 : dig k i = 0 := by omega
    rw [hb, decide_eq_false (by omega)]
    have hn := CN p k (64 - (i + 1)) (Dn hk _ (by omega) hc)
    rw [hn, h0, td _ rfl, td _ rfl, td _ rfl, td _ rfl, FE _ _ rfl]
    exact Zq p _ k i (by omega) hd
theorem RG (p : Pt1) (k : Nat) (hk : k < 115792089237316195423570985008687907853269984665640564039457584007913129639936) : Sound prog 236 false (.loop (pI f117 0)) (uz (pD f54 0) p k false 63 [.m p.1, .m p.2.1, .c (.int .u64 0), .c (.int .u64 0), .c (.int .u64 0), .c (.int .u64 0), .c (.int .u64 0), .c (.int .u64 0)]).aa (.exit 0) (LT (pD f54 0) p k (pc1 (vU p k 64))).aa := by
 have hl := MW p k hk ⟨64, Nat.le_refl _⟩
 simp only [Nat.sub_self, FQ hk] at hl
 refine Sound.pre (J := uz (pD f54 0) p k false (((64 : Nat) : Int) - 1) (pc1 (vU p k 0))) hl [] (by kernel_rfl) ?_
 have e0 : flat [.m p.1, .m p.2.1, .c (.int .u64 0), .c (.int .u64 0), .c (.int .u64 0), .c (.int .u64 0), .c (.int .u64 0), .c (.int .u64 0)] = flat (pc1 (vU p k 0)) := by
  symm
  show flat ([.m p.1, .m p.2.1] ++ [.m (0 : Fin Pp)]) = flat ([.m p.1, .m p.2.1] ++ [.c (.int .u64 0), .c (.int .u64 0), .c (.int .u64 0), .c (.int .u64 0), .c (.int .u64 0), .c (.int .u64 0)])
  rw [pO, pO, x6]
 exact ⟨⟨rfl, rr0, rfl, rfl, tt0⟩, ⟨rr0, rr0, rr0, rr0, ⟨rfl, e0⟩, rr0, tt0, ⟨⟨rfl, rfl, rfl, rfl, rfl, rfl, rfl⟩, ug (by kernel_rfl)⟩, tt0⟩⟩
abbrev NI (p : Pt1) : List Ch := [.m p.1, .m p.2.1, .c (.int .u64 0), .c (.int .u64 0), .c (.int .u64 0), .c (.int .u64 0), .c (.int .u64 0), .c (.int .u64 0)]
abbrev PZ (k : Nat) : Prop := k < 115792089237316195423570985008687907853269984665640564039457584007913129639936
theorem aba (p : Pt1) (k : Nat) (hk : PZ k) : Gives prog 54 [.t (.ag (pc1 p)), .t (.ag [.n 4 k])] (.ag (pc1 (vU p k 64))) :=
 pz (P := prog) (X := qz _) (env := [s6, yw]) ⟨rl, vk, tt0⟩ func54 2 (oL [(238, lpO { I := uz (pD f54 0) p k false 63 (NI p), ex := .exit 0, E := LT (pD f54 0) p k (pc1 (vU p k 64)), fr := 239, lk := [(235, [5, 7])] })]) (by kernel_rfl) ⟨_, rfl⟩ (ai (show some (uz (pD f54 0) p k false 63 (NI p)) = some (uz (pD f54 0) p k false 63 (NI p)) from rfl) (ai (RG p k hk) tt0))
def DA : Entry := r6 54 Dm.x EJ.x (fun p k => [(some (k < 115792089237316195423570985008687907853269984665640564039457584007913129639936), .ag (pc1 (vU p k 64)))])
theorem zq : DA.OK prog := qw (fun args w => Go.Proofs.enters_of (P := prog) func54 (by kernel_rfl) rfl args w) (fun p k => ur (fun h => aba p k h))
end Go.Proofs.YtokjhbmmdmeafaaGreat
set_option linter.unusedSimpArgs false
set_option linter.unusedVariables false
namespace Go.Proofs.YtokjhbmmdmeafaaGreat
open Go.Ev Go.RowKit
open Tryz
theorem RZ (x y : Nat) (hx : small x) (hy : small y) (h : ¬ flat [.q (ofP x)] = flat [.n 6 x]) : Gives prog 90 [.t (.ag [.n 6 x, .n 6 y, .c (.bool false)])] (.v (.bool false)) :=
 pq (P := prog) (env := [DX, tJ, qa, qE, sE]) ⟨tY, q9, pR, pW, qe, tt0⟩ func90 1 (oL [(18, wO 1)]) (by kernel_rfl) (ai (show ¬ flat [.q (ofP x)] = flat [.n 6 x] from h) (ai (show smP y from hy) (ai (show smP x from hx) tt0)))
def NJ {x : Nat} (y : Nat) (hx : small x) (hy : small y) (h : flat [.q (ofP x)] = flat [.n 6 x]) := PLift.up (ai (show flat [.q (ofP x)] = flat [.n 6 x] from h) (ai (show smP y from hy) (ai (show smP x from hx) tt0)))
theorem Sn (x y : Nat) (hx : small x) (hy : small y) (h : flat [.q (ofP x)] = flat [.n 6 x]) (h2 : ¬ flat [.q (ofP y)] = flat [.n 6 y]) : Gives prog 90 [.t (.ag [.n 6 x, .n 6 y, .c (.bool false)])] (.v (.bool false)) :=
 pq (P := prog) (env := [DX, tJ, qa, qE, sE]) ⟨tY, q9, pR, pW, qe, tt0⟩ func90 1 (oL [(18, wO 0), (24, wO 1)]) (by kernel_rfl) (ai (show ¬ flat [.q (ofP y)] = flat [.n 6 y] from h2)
   (NJ y hx hy h).down)
abbrev JF (x : Nat) : List Ch := [.m (ofP x * ofP x * ofP x + ofP (4 % 18446744073709551616))]
theorem Q9 (x y : Nat) (hx : small x) (hy : small y) (h : flat [.q (ofP x)] = flat [.n 6 x]) (h2 : flat [.q (ofP y)] = flat [.n 6 y]) (h3 : ¬ flat [.m (ofP y * ofP y)] = flat (JF x)) : Gives prog 90 [.t (.ag [.n 6 x, .n 6 y, .c (.bool false)])] (.v (.bool false)) :=
 pq (P := prog) (env := [DX, tJ, qa, qE, sE]) ⟨tY, q9, pR, pW, qe, tt0⟩ func90 1 (oL [(18, wO 0), (24, wO 0), (37, wO 1)]) (by kernel_rfl) (ai (show ¬ flat [.m (ofP y * ofP y)] = flat (JF x) from h3) (ai (show flat [.q (ofP y)] = flat [.n 6 y] from h2)
   (NJ y hx hy h).down))
theorem W1 (x y : Nat) (hx : small x) (hy : small y) (h : flat [.q (ofP x)] = flat [.n 6 x]) (h2 : flat [.q (ofP y)] = flat [.n 6 y]) (h3 : flat [.m (ofP y * ofP y)] = flat (JF x)) : Gives prog 90 [.t (.ag [.n 6 x, .n 6 y, .c (.bool false)])] (.v (.bool true)) :=
 pq (P := prog) (env := [DX, tJ, qa, qE, sE]) ⟨tY, q9, pR, pW, qe, tt0⟩ func90 1 (oL [(18, wO 0), (24, wO 0), (37, wO 0)]) (by kernel_rfl) (ai (show flat [.m (ofP y * ofP y)] = flat (JF x) from h3) (ai (show flat [.q (ofP y)] = flat [.n 6 y] from h2)
   (NJ y hx hy h).down))
abbrev I9 : List Ch := [.c (.int .u64 0), .c (.int .u64 0), .c (.int .u64 0), .c (.int .u64 0), .c (.int .u64 0), .c (.int .u64 0), .c (.int .u64 0), .c (.int .u64 0), .c (.int .u64 0), .c (.int .u64 0), .c (.int .u64 0), .c (.int .u64 0), .c (.bool true)]
theorem RB (x y : Nat) (h : flat [.n 6 x, .n 6 y, .c (.bool true)] = flat I9) : Gives prog 90 [.t (.ag [.n 6 x, .n 6 y, .c (.bool true)])] (.v (.bool true)) :=
 pq (P := prog) (env := [DX, tJ, qa, qE, sE]) ⟨tY, q9, pR, pW, qe, tt0⟩ func90 1 (oL [(6, wO 0)]) (by kernel_rfl) (ai (show flat [.n 6 x, .n 6 y, .c (.bool true)] = flat I9 from h) tt0)
theorem Ss (x y : Nat) (h : ¬ flat [.n 6 x, .n 6 y, .c (.bool true)] = flat I9) : Gives prog 90 [.t (.ag [.n 6 x, .n 6 y, .c (.bool true)])] (.v (.bool false)) :=
 pq (P := prog) (env := [DX, tJ, qa, qE, sE]) ⟨tY, q9, pR, pW, qe, tt0⟩ func90 1 (oL [(6, wO 1)]) (by kernel_rfl) (ai (show ¬ flat [.n 6 x, .n 6 y, .c (.bool true)] = flat I9 from h) tt0)
theorem Bi (x y : Nat) : flat [.m (ofP y * ofP y)] = flat [.m (ofP x * ofP x * ofP x + ofP (4 % 18446744073709551616))] ↔ ofP y * ofP y = sJ (ofP x) := by
 rw [show (4 % 18446744073709551616 : Nat) = 4 from rfl]
 unfold sJ
 exact ⟨fun e => vi e, fun e => by rw [e]⟩
theorem Rh (a : A1) (hs : sml1 a) (h : may1 a) : Gives prog 90 [.t (.ag [.n 6 a.1, .n 6 a.2.1, .c (.bool a.2.2)])] (.v (.bool true)) := by
 obtain ⟨x, y, b⟩ := a
 obtain ⟨hx, hy⟩ := hs
 cases b with
 | true => exact RB x y ((B8 hx hy true).2 (by simpa only [may1, if_true] using h))
 | false =>
  have h : is1 x /\ is1 y /\ ofP y * ofP y = sJ (ofP x) := h
  exact W1 x y hx hy ((tU hx).2 h.1) ((tU hy).2 h.2.1) ((Bi x y).2 h.2.2)
theorem QV (a : A1) (hs : sml1 a) (h : ¬ may1 a) : Gives prog 90 [.t (.ag [.n 6 a.1, .n 6 a.2.1, .c (.bool a.2.2)])] (.v (.bool false)) := by
 obtain ⟨x, y, b⟩ := a
 obtain ⟨hx, hy⟩ := hs
 cases b with
 | true => exact Ss x y (fun e => h (by simpa only [may1, if_true] using (B8 hx hy true).1 e))
 | false =>
  have h : ¬ (is1 x /\ is1 y /\ ofP y * ofP y = sJ (ofP x)) := h
  by_cases h1 : is1 x
  ·by_cases h2 : is1 y
   ·exact Q9 x y hx hy ((tU hx).2 h1) ((tU hy).2 h2) (fun e => h ⟨h1, h2, (Bi x y).1 e⟩)
   ·exact Sn x y hx hy ((tU hx).2 h1) (fun e => h2 ((tU hy).1 e))
  ·exact RZ x y hx hy (fun e => h1 ((tU hx).1 e))
def Jv (a : A1) : tg := [(some (sml1 a /\ may1 a), .v (.bool true)), (some (sml1 a /\ ¬ may1 a), .v (.bool false))]
theorem FL {f : FuncId} {args : A1 -> List XV} (h1 : ∀ a, sml1 a -> may1 a -> Gives prog f (args a) (.v (.bool true))) (h2 : ∀ a, sml1 a -> ¬ may1 a -> Gives prog f (args a) (.v (.bool false))) : ∀ a c r, (c, r) ∈ Jv a -> c.getD True -> Gives prog f (args a) r := by
 intro a c r hm hc
 simp only [Jv, List.mem_cons, pi0, List.not_mem_nil, or_false] at hm
 rcases hm with ⟨rfl, rfl⟩ | ⟨rfl, rfl⟩
 ·exact h1 a hc.1 hc.2
 ·exact h2 a hc.1 hc.2
def Vg : Entry := pS 90 JD.x Jv
theorem I5 : Vg.OK prog := pE (fun args w => Go.Proofs.enters_of (P := prog) func90 (by kernel_rfl) rfl args w) (FL Rh QV)
theorem Nn (a : A1) (hs : sml1 a) (h : may1 a) : Gives prog 52 [.t (.ag [.n 6 a.1, .n 6 a.2.1, .c (.bool a.2.2)])] (.v (.bool true)) :=
 pq (P := prog) (env := [Vg]) ⟨I5, tt0⟩ func52 0 (oL [(3, wO 0)]) (by kernel_rfl) (ai (show sml1 a /\ may1 a from ⟨hs, h⟩) tt0)
theorem Pv (a : A1) (hs : sml1 a) (h : ¬ may1 a) : Gives prog 52 [.t (.ag [.n 6 a.1, .n 6 a.2.1, .c (.bool a.2.2)])] (.v (.bool false)) :=
 pq (P := prog) (env := [Vg]) ⟨I5, tt0⟩ func52 0 (oL [(3, wO 1)]) (by kernel_rfl) (ai (show sml1 a /\ ¬ may1 a from ⟨hs, h⟩) tt0)
def Cs : Entry := pS 52 JD.x Jv
theorem yM : Cs.OK prog := pE (fun args w => Go.Proofs.enters_of (P := prog) func52 (by kernel_rfl) rfl args w) (FL Nn Pv)
theorem RJ (x y : Nat) : Gives prog 53 [.t (.ag [.n 6 x, .n 6 y, .c (.bool true)])] (.ag [.m (ofP (1 % 18446744073709551616)), .m (ofP (1 % 18446744073709551616)), .c (.int .u64 0), .c (.int .u64 0), .c (.int .u64 0), .c (.int .u64 0), .c (.int .u64 0), .c (.int .u64 0)]) :=
 pq (P := prog) (env := [DX, sE]) ⟨tY, qe, tt0⟩ func53 0 (oL []) (by kernel_rfl) trivial
theorem RL (x y : Nat) (hx : small x) (hy : small y) : Gives prog 53 [.t (.ag [.n 6 x, .n 6 y, .c (.bool false)])] (.ag [.m (ofP x), .m (ofP y), .m (ofP (1 % 18446744073709551616))]) :=
 pq (P := prog) (env := [DX, sE]) ⟨tY, qe, tt0⟩ func53 0 (oL []) (by kernel_rfl) (ai (show smP y from hy) (ai (show smP x from hx) tt0))
theorem Qi (x y : Nat) : in1 (x, y, false) = (ofP x, ofP y, 1) := by unfold in1; exact if_neg (by simp)
theorem Po (x y : Nat) : in1 (x, y, true) = (1, 1, 0) := by unfold in1; exact if_pos rfl
theorem JO (x y : Fin Pp) : flat [.m x, .m y, .m (ofP (1 % 18446744073709551616))] = flat (pc1 (x, y, 1)) := rfl
theorem Lx : flat [.m (ofP (1 % 18446744073709551616)), .m (ofP (1 % 18446744073709551616)), .c (.int .u64 0), .c (.int .u64 0), .c (.int .u64 0), .c (.int .u64 0), .c (.int .u64 0), .c (.int .u64 0)] = flat (pc1 (1, 1, 0)) := by kernel_rfl
theorem acF (a : A1) (hs : sml1 a) : Gives prog 53 [.t (.ag [.n 6 a.1, .n 6 a.2.1, .c (.bool a.2.2)])] (.ag (pc1 (in1 a))) := by
 obtain ⟨x, y, b⟩ := a
 obtain ⟨hx, hy⟩ := hs
 cases b with
 | true => rw [Po x y]; exact Gives.same (RJ x y) (qV rfl rfl Lx).symm
 | false => rw [Qi x y]; exact Gives.same (RL x y hx hy) (qV rfl rfl (JO _ _)).symm
def IJ : Entry := pS 53 JD.x (fun a => [(some (sml1 a), .ag (pc1 (in1 a)))])
theorem AQ : IJ.OK prog := pE (fun args w => Go.Proofs.enters_of (P := prog) func53 (by kernel_rfl) rfl args w) (fun a => ur (fun h => acF a h))
def RO : Entry := xI 50 [(none, .ag [.c (.int .u64 18446744069414584321), .c (.int .u64 6034159408538082302), .c (.int .u64 3691218898639771653), .c (.int .u64 8353516859464449352)])]
theorem DH : RO.OK prog := va (fun args w => Go.Proofs.enters_of (P := prog) func50 (by kernel_rfl) rfl args w)
 (only (pq (P := prog) (env := []) trivial func50 0 o0 (by kernel_rfl) tt0))
theorem To : Rr < 115792089237316195423570985008687907853269984665640564039457584007913129639936 := by decide
def O9 (a : A1) (hs : sml1 a) (h : may1 a) := PLift.up (ai To (ai (show sml1 a from hs) (ai (show sml1 a /\ may1 a from ⟨hs, h⟩) tt0)))
theorem OB (a : A1) (hs : sml1 a) (h : may1 a) (g : sA a) : Gives prog 22 [.t (.ag [.n 6 a.1, .n 6 a.2.1, .c (.bool a.2.2)])] (.v (.bool true)) :=
 pq (P := prog) (env := [Cs, IJ, RO, DA, wR]) ⟨yM, AQ, DH, zq, sg, tt0⟩ func22 0 (oL [(3, wO 0), (10, wO 0)]) (by kernel_rfl) (ai (show (vU (in1 a) Rr 64).2.2 = 0 from g)
   (O9 a hs h).down)
theorem Nl (a : A1) (hs : sml1 a) (h : may1 a) (g : ¬ sA a) : Gives prog 22 [.t (.ag [.n 6 a.1, .n 6 a.2.1, .c (.bool a.2.2)])] (.v (.bool false)) :=
 pq (P := prog) (env := [Cs, IJ, RO, DA, wR]) ⟨yM, AQ, DH, zq, sg, tt0⟩ func22 0 (oL [(3, wO 0), (10, wO 1)]) (by kernel_rfl) (ai (show ¬ (vU (in1 a) Rr 64).2.2 = 0 from g)
   (O9 a hs h).down)
theorem Ra (a : A1) (hs : sml1 a) (h : ¬ may1 a) : Gives prog 22 [.t (.ag [.n 6 a.1, .n 6 a.2.1, .c (.bool a.2.2)])] (.v (.bool false)) :=
 pq (P := prog) (env := [Cs, IJ, RO, DA, wR]) ⟨yM, AQ, DH, zq, sg, tt0⟩ func22 0 (oL [(3, wO 1)]) (by kernel_rfl) (ai (show sml1 a /\ ¬ may1 a from ⟨hs, h⟩) tt0)
def Oc : Entry := pS 22 JD.x (fun a => [(some (sml1 a /\ may1 a /\ sA a), .v (.bool true)), (some (sml1 a /\ may1 a /\ ¬ sA a), .v (.bool false)), (some (sml1 a /\ ¬ may1 a), .v (.bool false))])
theorem M1 : Oc.OK prog := pE (fun args w => Go.Proofs.enters_of (P := prog) func22 (by kernel_rfl) rfl args w) (fun a c r hm hc => by
 simp only [List.mem_cons, pi0, List.not_mem_nil, or_false] at hm
 rcases hm with ⟨rfl, rfl⟩ | ⟨rfl, rfl⟩ | ⟨rfl, rfl⟩
 ·exact OB a hc.1 hc.2.1 hc.2.2
 ·exact Nl a hc.1 hc.2.1 hc.2.2
 ·exact Ra a hc.1 hc.2)
end Go.Proofs.YtokjhbmmdmeafaaGreat
set_option linter.unusedSimpArgs false
set_option linter.unusedVariables false
namespace Go.Proofs.YtokjhbmmdmeafaaGreat
open Go.Ev Go.RowKit
open Tryz
def Fa (l : LU0) : Nat := pre l 5 8 % 18446744073709551616 + 18446744073709551616 * (pre l 4 8 % 18446744073709551616 + 18446744073709551616 * (pre l 3 8 % 18446744073709551616 + 18446744073709551616 * (pre l 2 8 % 18446744073709551616 + 18446744073709551616 * (pre l 1 8 % 18446744073709551616 + 18446744073709551616 * (pre l 0 8 % 18446744073709551616 + 18446744073709551616 * (0))))))
theorem Ag (l : LU0) : Fa l = deN 48 l := by
 have e : deN 48 l = pre l 0 (8 * (0 + 6)) := rfl
 have l0 : pre l 0 8 < 18446744073709551616 := sT l 0 8
 have l1 : pre l 1 8 < 18446744073709551616 := sT l 1 8
 have l2 : pre l 2 8 < 18446744073709551616 := sT l 2 8
 have l3 : pre l 3 8 < 18446744073709551616 := sT l 3 8
 have l4 : pre l 4 8 < 18446744073709551616 := sT l 4 8
 have l5 : pre l 5 8 < 18446744073709551616 := sT l 5 8
 rw [e, show 8 * (0 + 6) = 8 * (5 + 1) from rfl, ry, show 8 * 5 = 8 * (4 + 1) from rfl, ry, show 8 * 4 = 8 * (3 + 1) from rfl, ry, show 8 * 3 = 8 * (2 + 1) from rfl, ry, show 8 * 2 = 8 * (1 + 1) from rfl, ry, show 8 * 1 = 8 * (0 + 1) from rfl, ry]
 unfold Fa
 rw [Nat.mod_eq_of_lt l0]
 rw [Nat.mod_eq_of_lt l1]
 rw [Nat.mod_eq_of_lt l2]
 rw [Nat.mod_eq_of_lt l3]
 rw [Nat.mod_eq_of_lt l4]
 rw [Nat.mod_eq_of_lt l5]
 simp only [pre, Nat.mul_zero, Nat.zero_mul, Nat.zero_add]
 omega
theorem RF (l : LU0) (h : deN 48 l < 4002409555221667393417789825735904156556882819939007885332058136124031650490837864442687629129015664037894272559787) : (AV.tp [.ag [.n 1 (pre l 5 8), .n 1 (pre l 4 8), .n 1 (pre l 3 8), .n 1 (pre l 2 8), .n 1 (pre l 1 8), .n 1 (pre l 0 8)], vi0 0]).val? = (AV.tp [.ag [.q (ofP (deN 48 l))], vi0 0]).val? := by
 have e1 := qQ 6 [.n 1 (pre l 5 8), .n 1 (pre l 4 8), .n 1 (pre l 3 8), .n 1 (pre l 2 8), .n 1 (pre l 1 8), .n 1 (pre l 0 8)] (Fa l) [] rfl
 rw [Ag] at e1
 have e2 : flat [Ch.q (ofP (deN 48 l))] = limbs 6 (deN 48 l) := by simp only [flat, Ch.cells, List.append_nil]; rw [show (ofP (deN 48 l)).val = deN 48 l from Nat.mod_eq_of_lt h]
 have e3 : flat [.n 1 (pre l 5 8), .n 1 (pre l 4 8), .n 1 (pre l 3 8), .n 1 (pre l 2 8), .n 1 (pre l 1 8), .n 1 (pre l 0 8)] = flat [Ch.q (ofP (deN 48 l))] := by rw [e1, e2]; simp [flat]
 have e4 := qV (a := [.n 1 (pre l 5 8), .n 1 (pre l 4 8), .n 1 (pre l 3 8), .n 1 (pre l 2 8), .n 1 (pre l 1 8), .n 1 (pre l 0 8)]) (b := [Ch.q (ofP (deN 48 l))]) rfl rfl e3
 simp only [AV.val?, AV.vals?] at e4 ⊢
 rw [e4]
def aag (B : Nat -> Nat) : List Ora := [rO 1 (B 0), rO 1 (B 1), rO 1 (B 2), rO 1 (B 3), rO 1 (B 4), rO 1 (B 5), rO 1 (B 6), rO 1 (B 7), rO 1 (B 8), rO 1 (B 9), rO 1 (B 10), rO 1 (B 11), rO 1 (B 12), rO 1 (B 13), rO 1 (B 14), rO 1 (B 15), rO 1 (B 16), rO 1 (B 17), rO 1 (B 18), rO 1 (B 19), rO 1 (B 20), rO 1 (B 21), rO 1 (B 22), rO 1 (B 23), rO 1 (B 24), rO 1 (B 25), rO 1 (B 26), rO 1 (B 27), rO 1 (B 28), rO 1 (B 29), rO 1 (B 30), rO 1 (B 31), rO 1 (B 32), rO 1 (B 33), rO 1 (B 34), rO 1 (B 35), rO 1 (B 36), rO 1 (B 37), rO 1 (B 38), rO 1 (B 39), rO 1 (B 40), rO 1 (B 41), rO 1 (B 42), rO 1 (B 43), rO 1 (B 44), rO 1 (B 45), rO 1 (B 46), rO 1 (B 47)]
def aaI (B : Nat -> Nat) : List Ora := [{ ch := 2, hi := fun _ => B 0 }, { ch := 2, hi := fun _ => B 1 }, { ch := 2, hi := fun _ => B 2 }, { ch := 2, hi := fun _ => B 3 }, { ch := 2, hi := fun _ => B 4 }, { ch := 2, hi := fun _ => B 5 }, { ch := 2, hi := fun _ => B 6 }, { ch := 2, hi := fun _ => B 7 }, { ch := 2, hi := fun _ => B 8 }, { ch := 2, hi := fun _ => B 9 }, { ch := 2, hi := fun _ => B 10 }, { ch := 2, hi := fun _ => B 11 }, { ch := 2, hi := fun _ => B 12 }, { ch := 2, hi := fun _ => B 13 }, { ch := 2, hi := fun _ => B 14 }, { ch := 2, hi := fun _ => B 15 }, { ch := 2, hi := fun _ => B 16 }, { ch := 2, hi := fun _ => B 17 }, { ch := 2, hi := fun _ => B 18 }, { ch := 2, hi := fun _ => B 19 }, { ch := 2, hi := fun _ => B 20 }, { ch := 2, hi := fun _ => B 21 }, { ch := 2, hi := fun _ => B 22 }, { ch := 2, hi := fun _ => B 23 }, { ch := 2, hi := fun _ => B 24 }, { ch := 2, hi := fun _ => B 25 }, { ch := 2, hi := fun _ => B 26 }, { ch := 2, hi := fun _ => B 27 }, { ch := 2, hi := fun _ => B 28 }, { ch := 2, hi := fun _ => B 29 }, { ch := 2, hi := fun _ => B 30 }, { ch := 2, hi := fun _ => B 31 }, { ch := 2, hi := fun _ => B 32 }, { ch := 2, hi := fun _ => B 33 }, { ch := 2, hi := fun _ => B 34 }, { ch := 2, hi := fun _ => B 35 }, { ch := 2, hi := fun _ => B 36 }, { ch := 2, hi := fun _ => B 37 }, { ch := 2, hi := fun _ => B 38 }, { ch := 2, hi := fun _ => B 39 }, { ch := 2, hi := fun _ => B 40 }, { ch := 2, hi := fun _ => B 41 }, { ch := 2, hi := fun _ => B 42 }, { ch := 2, hi := fun _ => B 43 }, { ch := 2, hi := fun _ => B 44 }, { ch := 2, hi := fun _ => B 45 }, { ch := 2, hi := fun _ => B 46 }, { ch := 2, hi := fun _ => B 47 }]
def ZF (W : Nat -> Nat -> Nat) : List Ora := [{ ch := 1, hi := fun _ => W 0 1 }, { ch := 1, hi := fun _ => W 0 2 }, { ch := 1, hi := fun _ => W 0 3 }, { ch := 1, hi := fun _ => W 0 4 }, { ch := 1, hi := fun _ => W 0 5 }, { ch := 1, hi := fun _ => W 0 6 }, { ch := 1, hi := fun _ => W 0 7 }, { ch := 1, hi := fun _ => W 0 8 }, { ch := 1, hi := fun _ => W 1 1 }, { ch := 1, hi := fun _ => W 1 2 }, { ch := 1, hi := fun _ => W 1 3 }, { ch := 1, hi := fun _ => W 1 4 }, { ch := 1, hi := fun _ => W 1 5 }, { ch := 1, hi := fun _ => W 1 6 }, { ch := 1, hi := fun _ => W 1 7 }, { ch := 1, hi := fun _ => W 1 8 }, { ch := 1, hi := fun _ => W 2 1 }, { ch := 1, hi := fun _ => W 2 2 }, { ch := 1, hi := fun _ => W 2 3 }, { ch := 1, hi := fun _ => W 2 4 }, { ch := 1, hi := fun _ => W 2 5 }, { ch := 1, hi := fun _ => W 2 6 }, { ch := 1, hi := fun _ => W 2 7 }, { ch := 1, hi := fun _ => W 2 8 }, { ch := 1, hi := fun _ => W 3 1 }, { ch := 1, hi := fun _ => W 3 2 }, { ch := 1, hi := fun _ => W 3 3 }, { ch := 1, hi := fun _ => W 3 4 }, { ch := 1, hi := fun _ => W 3 5 }, { ch := 1, hi := fun _ => W 3 6 }, { ch := 1, hi := fun _ => W 3 7 }, { ch := 1, hi := fun _ => W 3 8 }, { ch := 1, hi := fun _ => W 4 1 }, { ch := 1, hi := fun _ => W 4 2 }, { ch := 1, hi := fun _ => W 4 3 }, { ch := 1, hi := fun _ => W 4 4 }, { ch := 1, hi := fun _ => W 4 5 }, { ch := 1, hi := fun _ => W 4 6 }, { ch := 1, hi := fun _ => W 4 7 }, { ch := 1, hi := fun _ => W 4 8 }, { ch := 1, hi := fun _ => W 5 1 }, { ch := 1, hi := fun _ => W 5 2 }, { ch := 1, hi := fun _ => W 5 3 }, { ch := 1, hi := fun _ => W 5 4 }, { ch := 1, hi := fun _ => W 5 5 }, { ch := 1, hi := fun _ => W 5 6 }, { ch := 1, hi := fun _ => W 5 7 }, { ch := 1, hi := fun _ => W 5 8 }]
def X8 (B : Nat -> Nat) (W : Nat -> Nat -> Nat) (last : LO0) : Nat -> Ora := fun id =>
 match O7 [3, 10, 14, 25] id with
 | true => nV 48
 | false =>
  match Nat.ble 45 id, Nat.blt id 1228 with
  | true, true => (match (id - 45) % 25 with
   | 0 => Hv (aag B) ((id - 45) / 25)
   | 1 => Hv (aaI B) ((id - 45) / 25)
   | 2 => Hv (ZF W) ((id - 45) / 25)
   | _ => { ch := 0, hi := fun _ => 0 })
  | _, _ => oL last id
theorem JC (l : LU0) : Fa l < 39402006196394479212279040100143613805079739270465446667948293404245721771497210611414266254884915640806627990306816 := by rw [Ag]; exact ON 48 l
set_option maxRecDepth 100000 in
theorem ID (l : LU0) (h : l.length = 48) : ((l.length : Nat) : Int) = ((48 : Nat) : Int) := by rw [h]
def TF {l : LU0} {B : Nat -> Nat} {W : Nat -> Nat -> Nat} (h : l.length = 48) (hR : ∀ i : Nat, i < 48 -> (0 : Int) <= (i : Int) /\ (i : Int) < (ofL l).size /\ ((ofL l)[(i : Int).toNat]?.getD 0).toNat = B i) (hC : ∀ i, IntKind.u64 = IntKind.u64 /\ IntKind.u64.wrap ((B i : Nat) : Int) = ((B i % 18446744073709551616 : Nat) : Int)) (h0 : ∀ k, (0 ||| B (8 * k + 0) % 18446744073709551616) % 18446744073709551616 = W k 1 % 18446744073709551616) (h1 : ∀ k m, m < 8 -> (W k m / 18446744073709551616 ^ 0 * 2 ^ min 8 64 % 18446744073709551616 ||| B (8 * k + m) % 18446744073709551616) % 18446744073709551616 = W k (m + 1) % 18446744073709551616) := PLift.up (ai (h1 5 7 (by decide)) (ai (hC 47) (ai (hR 47 (by decide)) (ai (h1 5 6 (by decide)) (ai (hC 46) (ai (hR 46 (by decide)) (ai (h1 5 5 (by decide)) (ai (hC 45) (ai (hR 45 (by decide)) (ai (h1 5 4 (by decide)) (ai (hC 44) (ai (hR 44 (by decide)) (ai (h1 5 3 (by decide)) (ai (hC 43) (ai (hR 43 (by decide)) (ai (h1 5 2 (by decide)) (ai (hC 42) (ai (hR 42 (by decide)) (ai (h1 5 1 (by decide)) (ai (hC 41) (ai (hR 41 (by decide)) (ai (h0 5) (ai (hC 40) (ai (hR 40 (by decide)) (ai (h1 4 7 (by decide)) (ai (hC 39) (ai (hR 39 (by decide)) (ai (h1 4 6 (by decide)) (ai (hC 38) (ai (hR 38 (by decide)) (ai (h1 4 5 (by decide)) (ai (hC 37) (ai (hR 37 (by decide)) (ai (h1 4 4 (by decide)) (ai (hC 36) (ai (hR 36 (by decide)) (ai (h1 4 3 (by decide)) (ai (hC 35) (ai (hR 35 (by decide)) (ai (h1 4 2 (by decide)) (ai (hC 34) (ai (hR 34 (by decide)) (ai (h1 4 1 (by decide)) (ai (hC 33) (ai (hR 33 (by decide)) (ai (h0 4) (ai (hC 32) (ai (hR 32 (by decide)) (ai (h1 3 7 (by decide)) (ai (hC 31) (ai (hR 31 (by decide)) (ai (h1 3 6 (by decide)) (ai (hC 30) (ai (hR 30 (by decide)) (ai (h1 3 5 (by decide)) (ai (hC 29) (ai (hR 29 (by decide)) (ai (h1 3 4 (by decide)) (ai (hC 28) (ai (hR 28 (by decide)) (ai (h1 3 3 (by decide)) (ai (hC 27) (ai (hR 27 (by decide)) (ai (h1 3 2 (by decide)) (ai (hC 26) (ai (hR 26 (by decide)) (ai (h1 3 1 (by decide)) (ai (hC 25) (ai (hR 25 (by decide)) (ai (h0 3) (ai (hC 24) (ai (hR 24 (by decide)) (ai (h1 2 7 (by decide)) (ai (hC 23) (ai (hR 23 (by decide)) (ai (h1 2 6 (by decide)) (ai (hC 22) (ai (hR 22 (by decide)) (ai (h1 2 5 (by decide)) (ai (hC 21) (ai (hR 21 (by decide)) (ai (h1 2 4 (by decide)) (ai (hC 20) (ai (hR 20 (by decide)) (ai (h1 2 3 (by decide)) (ai (hC 19) (ai (hR 19 (by decide)) (ai (h1 2 2 (by decide)) (ai (hC 18) (ai (hR 18 (by decide)) (ai (h1 2 1 (by decide)) (ai (hC 17) (ai (hR 17 (by decide)) (ai (h0 2) (ai (hC 16) (ai (hR 16 (by decide)) (ai (h1 1 7 (by decide)) (ai (hC 15) (ai (hR 15 (by decide)) (ai (h1 1 6 (by decide)) (ai (hC 14) (ai (hR 14 (by decide)) (ai (h1 1 5 (by decide)) (ai (hC 13) (ai (hR 13 (by decide)) (ai (h1 1 4 (by decide)) (ai (hC 12) (ai (hR 12 (by decide)) (ai (h1 1 3 (by decide)) (ai (hC 11) (ai (hR 11 (by decide)) (ai (h1 1 2 (by decide)) (ai (hC 10) (ai (hR 10 (by decide)) (ai (h1 1 1 (by decide)) (ai (hC 9) (ai (hR 9 (by decide)) (ai (h0 1) (ai (hC 8) (ai (hR 8 (by decide)) (ai (h1 0 7 (by decide)) (ai (hC 7) (ai (hR 7 (by decide)) (ai (h1 0 6 (by decide)) (ai (hC 6) (ai (hR 6 (by decide)) (ai (h1 0 5 (by decide)) (ai (hC 5) (ai (hR 5 (by decide)) (ai (h1 0 4 (by decide)) (ai (hC 4) (ai (hR 4 (by decide)) (ai (h1 0 3 (by decide)) (ai (hC 3) (ai (hR 3 (by decide)) (ai (h1 0 2 (by decide)) (ai (hC 2) (ai (hR 2 (by decide)) (ai (h1 0 1 (by decide)) (ai (hC 1) (ai (hR 1 (by decide)) (ai (h0 0) (ai (hC 0) (ai (hR 0 (by decide)) (ai (ID l h) (ai (ID l h) (ai (ID l h) (ai (ID l h) tt0))))))))))))))))))))))))))))))))))))))))))))))))))))))))))))))))))))))))))))))))))))))))))))))))))))))))))))))))))))))))))))))))))))))))))))))))))))
theorem HW {a : List XV} {r : AV} {b : Prop} (o : Nat -> Ora) (h : fnA prog (qz _) [Be] 1 o f94 a = some (r, b)) (hv : ∃ v, r.val? = some v) (hb : b) : Gives prog 94 a r := pz (P := prog) (X := qz _) (env := [Be]) ⟨Fp, tt0⟩ func94 1 o h hv hb
theorem JV (l : LU0) (B : Nat -> Nat) (W : Nat -> Nat -> Nat) (h : l.length = 48) (hR : ∀ i : Nat, i < 48 -> (0 : Int) <= (i : Int) /\ (i : Int) < (ofL l).size /\ ((ofL l)[(i : Int).toNat]?.getD 0).toNat = B i) (hC : ∀ i, IntKind.u64 = IntKind.u64 /\ IntKind.u64.wrap ((B i : Nat) : Int) = ((B i % 18446744073709551616 : Nat) : Int)) (h0 : ∀ k, (0 ||| B (8 * k + 0) % 18446744073709551616) % 18446744073709551616 = W k 1 % 18446744073709551616) (h1 : ∀ k m, m < 8 -> (W k m / 18446744073709551616 ^ 0 * 2 ^ min 8 64 % 18446744073709551616 ||| B (8 * k + m) % 18446744073709551616) % 18446744073709551616 = W k (m + 1) % 18446744073709551616) (hN : (W 5 8 % 18446744073709551616 + 18446744073709551616 * (W 4 8 % 18446744073709551616 + 18446744073709551616 * (W 3 8 % 18446744073709551616 + 18446744073709551616 * (W 2 8 % 18446744073709551616 + 18446744073709551616 * (W 1 8 % 18446744073709551616 + 18446744073709551616 * (W 0 8 % 18446744073709551616 + 18446744073709551616 * (0))))))) < 39402006196394479212279040100143613805079739270465446667948293404245721771497210611414266254884915640806627990306816 /\ (W 5 8 % 18446744073709551616 + 18446744073709551616 * (W 4 8 % 18446744073709551616 + 18446744073709551616 * (W 3 8 % 18446744073709551616 + 18446744073709551616 * (W 2 8 % 18446744073709551616 + 18446744073709551616 * (W 1 8 % 18446744073709551616 + 18446744073709551616 * (W 0 8 % 18446744073709551616 + 18446744073709551616 * (0))))))) < 4002409555221667393417789825735904156556882819939007885332058136124031650490837864442687629129015664037894272559787) : Gives prog 94 [.t (.v (.string (ofL l)))] (.tp [.ag [.n 1 (W 5 8), .n 1 (W 4 8), .n 1 (W 3 8), .n 1 (W 2 8), .n 1 (W 1 8), .n 1 (W 0 8)], vi0 0]) :=
 HW (X8 B W [(1244, wO 0)]) (by kernel_rfl) ⟨_, rfl⟩ (ai (hN) (TF h hR hC h0 h1).down)
set_option maxRecDepth 100000 in
abbrev MQ : List Ch := [.c (.int .u64 0), .c (.int .u64 0), .c (.int .u64 0), .c (.int .u64 0), .c (.int .u64 0), .c (.int .u64 0)]
theorem KG (l : LU0) (B : Nat -> Nat) (W : Nat -> Nat -> Nat) (h : l.length = 48) (hR : ∀ i : Nat, i < 48 -> (0 : Int) <= (i : Int) /\ (i : Int) < (ofL l).size /\ ((ofL l)[(i : Int).toNat]?.getD 0).toNat = B i) (hC : ∀ i, IntKind.u64 = IntKind.u64 /\ IntKind.u64.wrap ((B i : Nat) : Int) = ((B i % 18446744073709551616 : Nat) : Int)) (h0 : ∀ k, (0 ||| B (8 * k + 0) % 18446744073709551616) % 18446744073709551616 = W k 1 % 18446744073709551616) (h1 : ∀ k m, m < 8 -> (W k m / 18446744073709551616 ^ 0 * 2 ^ min 8 64 % 18446744073709551616 ||| B (8 * k + m) % 18446744073709551616) % 18446744073709551616 = W k (m + 1) % 18446744073709551616) (hN : (W 5 8 % 18446744073709551616 + 18446744073709551616 * (W 4 8 % 18446744073709551616 + 18446744073709551616 * (W 3 8 % 18446744073709551616 + 18446744073709551616 * (W 2 8 % 18446744073709551616 + 18446744073709551616 * (W 1 8 % 18446744073709551616 + 18446744073709551616 * (W 0 8 % 18446744073709551616 + 18446744073709551616 * (0))))))) < 39402006196394479212279040100143613805079739270465446667948293404245721771497210611414266254884915640806627990306816 /\ 4002409555221667393417789825735904156556882819939007885332058136124031650490837864442687629129015664037894272559787 <= (W 5 8 % 18446744073709551616 + 18446744073709551616 * (W 4 8 % 18446744073709551616 + 18446744073709551616 * (W 3 8 % 18446744073709551616 + 18446744073709551616 * (W 2 8 % 18446744073709551616 + 18446744073709551616 * (W 1 8 % 18446744073709551616 + 18446744073709551616 * (W 0 8 % 18446744073709551616 + 18446744073709551616 * (0)))))))) : Gives prog 94 [.t (.v (.string (ofL l)))] (.tp [.ag MQ, vi0 20]) :=
 HW (X8 B W [(1244, wO 1)]) (by kernel_rfl) ⟨_, rfl⟩ (ai (hN) (TF h hR hC h0 h1).down)
theorem LH (l : LU0) (h : l.length = 48) (hp : deN 48 l < 4002409555221667393417789825735904156556882819939007885332058136124031650490837864442687629129015664037894272559787) : Gives prog 94 [.t (.v (.string (ofL l)))] (.tp [.ag [.q (ofP (deN 48 l))], vi0 0]) :=
 Gives.same (JV l (byt l) (pre l) h (fun i hi => xb l 48 i h hi) (wW l) (Ae l) (fun k m hm => by rw [Nat.pow_zero, Nat.div_one]; exact Ec l k m hm) (show Fa l < 39402006196394479212279040100143613805079739270465446667948293404245721771497210611414266254884915640806627990306816 /\ Fa l < 4002409555221667393417789825735904156556882819939007885332058136124031650490837864442687629129015664037894272559787 from ⟨JC l, by rw [Ag]; exact hp⟩)) (RF l hp).symm
theorem OS (l : LU0) (h : l.length = 48) (hp : 4002409555221667393417789825735904156556882819939007885332058136124031650490837864442687629129015664037894272559787 <= deN 48 l) : Gives prog 94 [.t (.v (.string (ofL l)))] (.tp [.ag [.c (.int .u64 0), .c (.int .u64 0), .c (.int .u64 0), .c (.int .u64 0), .c (.int .u64 0), .c (.int .u64 0)], vi0 20]) :=
 KG l (byt l) (pre l) h (fun i hi => xb l 48 i h hi) (wW l) (Ae l) (fun k m hm => by rw [Nat.pow_zero, Nat.div_one]; exact Ec l k m hm) (show Fa l < 39402006196394479212279040100143613805079739270465446667948293404245721771497210611414266254884915640806627990306816 /\ 4002409555221667393417789825735904156556882819939007885332058136124031650490837864442687629129015664037894272559787 <= Fa l from ⟨JC l, by rw [Ag]; exact hp⟩)
theorem J9 (l : LU0) (h : l.length ≠ 48) : Gives prog 94 [.t (.v (.string (ofL l)))] (.tp [.ag MQ, vi0 3]) :=
 HW (oL [(4, wT)]) (by kernel_rfl) ⟨_, rfl⟩ (ai (show ((((l.length : Nat) : Int) != 48) = true) from by simp; omega) tt0)
def Bv : Entry := pS 94 XPar.str (fun l => [(some (l.length ≠ 48), .tp [.ag [.c (.int .u64 0), .c (.int .u64 0), .c (.int .u64 0), .c (.int .u64 0), .c (.int .u64 0), .c (.int .u64 0)], vi0 3]), (some (l.length = 48 /\ deN 48 l < 4002409555221667393417789825735904156556882819939007885332058136124031650490837864442687629129015664037894272559787), .tp [.ag [.q (ofP (deN 48 l))], vi0 0]), (some (l.length = 48 /\ 4002409555221667393417789825735904156556882819939007885332058136124031650490837864442687629129015664037894272559787 <= deN 48 l), .tp [.ag [.c (.int .u64 0), .c (.int .u64 0), .c (.int .u64 0), .c (.int .u64 0), .c (.int .u64 0), .c (.int .u64 0)], vi0 20])])
theorem Cm : Bv.OK prog := pE (fun args w => Go.Proofs.enters_of (P := prog) func94 (by kernel_rfl) rfl args w) (fun l c r hm hc => by
 simp only [List.mem_cons, pi0, List.not_mem_nil, or_false] at hm
 rcases hm with ⟨rfl, rfl⟩ | ⟨rfl, rfl⟩ | ⟨rfl, rfl⟩
 ·exact J9 l hc
 ·exact LH l hc.1 hc.2
 ·exact OS l hc.1 hc.2)
end Go.Proofs.YtokjhbmmdmeafaaGreat
set_option linter.unusedVariables false
namespace Go.Proofs.YtokjhbmmdmeafaaGreat
open Go.Ev Go.RowKit
open Tryz
theorem De (v : Value) (r : LU0) : flat [.c v, .y r] = v :: r.map rI := by simp [flat, Ch.cells]
theorem N0 (v : Value) (b : UInt8) (r : LU0) : (flat [.c v, .y r]).take (ofL (b :: r)).size = v :: r.map rI := by
 rw [De]
 exact List.take_of_length_le (Nat.le_of_eq (by simp only [List.length_cons, List.length_map]; rfl))
end Go.Proofs.YtokjhbmmdmeafaaGreat
set_option linter.unusedSimpArgs false
set_option linter.unusedVariables false
namespace Go.Proofs.YtokjhbmmdmeafaaGreat
open Go.Ev Go.RowKit
open Tryz
end Go.Proofs.YtokjhbmmdmeafaaGreat
set_option linter.unusedSimpArgs false
set_option linter.unusedVariables false
namespace Go.Proofs.YtokjhbmmdmeafaaGreat
open Go.Ev Go.RowKit
open Tryz
def pc2 (p : Pt2) : List Ch := [.m (p).1.1, .m (p).1.2, .m (p).2.1.1, .m (p).2.1.2, .m (p).2.2.1, .m (p).2.2.2]
def Do : Par Pt2 := Yf
theorem yu : flat (m2 ((0, 0) : F2)) = flat [.c (.int .u64 0), .c (.int .u64 0), .c (.int .u64 0), .c (.int .u64 0), .c (.int .u64 0), .c (.int .u64 0), .c (.int .u64 0), .c (.int .u64 0), .c (.int .u64 0), .c (.int .u64 0), .c (.int .u64 0), .c (.int .u64 0)] := by kernel_rfl
theorem wA : ∀ l m : List (Fin Pp), l.length = m.length -> flat (l.map .m) = flat (m.map .m) -> l = m
 | [], [], _, _ => rfl
 | [], _ :: _, h, _ => by simp at h
 | _ :: _, [], h, _ => by simp at h
 | x :: l, y :: m, h, e => by
  have e' : limbs 6 (toM x) ++ flat (l.map .m) = limbs 6 (toM y) ++ flat (m.map .m) := e
  have hl : (limbs 6 (toM x)).length = (limbs 6 (toM y)).length := by simp only [limbs, List.length_cons, List.length_nil]
  have h1 := List.append_inj e' hl
  have h2 : flat [Ch.m x] = flat [Ch.m y] := by simp only [flat, Ch.cells, List.append_nil]; exact h1.1
  rw [vi h2, wA l m (by simpa using h) h1.2]
theorem VI (a : F2) (h : a = (0, 0)) : Gives prog 51 [.t (.ag (m2 a))] (.v (.bool true)) := pq (P := prog) (env := []) trivial func51 0 (oN [] [(4, 0)]) (by kernel_rfl) (ai (show flat (m2 a) = flat [.c (.int .u64 0), .c (.int .u64 0), .c (.int .u64 0), .c (.int .u64 0), .c (.int .u64 0), .c (.int .u64 0), .c (.int .u64 0), .c (.int .u64 0), .c (.int .u64 0), .c (.int .u64 0), .c (.int .u64 0), .c (.int .u64 0)] from by rw [h]; exact yu) tt0)
theorem Uc (a : F2) (h : a ≠ (0, 0)) : Gives prog 51 [.t (.ag (m2 a))] (.v (.bool false)) := pq (P := prog) (env := []) trivial func51 0 (oN [] [(4, 1)]) (by kernel_rfl) (ai (show ¬ flat (m2 a) = flat [.c (.int .u64 0), .c (.int .u64 0), .c (.int .u64 0), .c (.int .u64 0), .c (.int .u64 0), .c (.int .u64 0), .c (.int .u64 0), .c (.int .u64 0), .c (.int .u64 0), .c (.int .u64 0), .c (.int .u64 0), .c (.int .u64 0)] from fun e => h (by
 have := wA [a.1, a.2] [0, 0] rfl (e.trans yu.symm)
 simp only [List.cons.injEq] at this
 exact uW this.1 this.2.1)) tt0)
def wI : Entry := pS 51 ti.x (fun a => [(some (a = (0, 0)), .v (.bool true)), (some (a ≠ (0, 0)), .v (.bool false))])
theorem se : wI.OK prog := pE (fun args w => Go.Proofs.enters_of (P := prog) func51 (by kernel_rfl) rfl args w) (fun a c r hm hc => by
 simp only [List.mem_cons, pi0, List.not_mem_nil, or_false] at hm
 rcases hm with ⟨rfl, rfl⟩ | ⟨rfl, rfl⟩
 ·exact VI a hc
 ·exact Uc a hc)
theorem LO (p : Pt2) (h : p.2.2 = ((0, 0) : F2)) : Gives prog 89 [.t (.ag (pc2 p))] (.ag (pc2 (rK p))) := by
 unfold rK
 rw [if_pos h]
 exact pq (P := prog) (env := [wI, rZ, ub, qZ]) ⟨se, qu, sj, qn, tt0⟩ func89 0 (oL [(5, wO 0)]) (by kernel_rfl) (ai h tt0)
theorem Nk (p : Pt2) (h : p.2.2 ≠ ((0, 0) : F2)) : Gives prog 89 [.t (.ag (pc2 p))] (.ag (pc2 (rK p))) := by
 unfold rK
 rw [if_neg h]
 exact pq (P := prog) (env := [wI, rZ, ub, qZ]) ⟨se, qu, sj, qn, tt0⟩ func89 0 (oL [(5, wO 1)]) (by kernel_rfl) (ai h tt0)
def sX : Entry := pS 89 Do.x (fun p => [(none, .ag (pc2 (rK p)))])
theorem rg : sX.OK prog := pE (fun args w => Go.Proofs.enters_of (P := prog) func89 (by kernel_rfl) rfl args w) (fun p => only (by
 by_cases h : p.2.2 = ((0, 0) : F2)
 ·exact LO p h
 ·exact Nk p h))
theorem aah (p q : Pt2) : Gives prog 87 [.t (.ag (pc2 p)), .t (.ag (pc2 q))] (.ag (pc2 (yB p q))) := by
 unfold yB
 by_cases h1 : p.2.2 = ((0, 0) : F2)
 ·rw [if_pos h1]
  exact pq (P := prog) (env := [wI, sX, rZ, ub, qZ]) ⟨se, rg, qu, sj, qn, tt0⟩ func87 0 (oL [(6, wO 0)]) (by kernel_rfl) (ai h1 tt0)
 ·rw [if_neg h1]
  by_cases h2 : q.2.2 = ((0, 0) : F2)
  ·rw [if_pos h2]
   exact pq (P := prog) (env := [wI, sX, rZ, ub, qZ]) ⟨se, rg, qu, sj, qn, tt0⟩ func87 0 (oL [(6, wO 1), (11, wO 0)]) (by kernel_rfl) (ai h2 (ai h1 tt0))
  ·rw [if_neg h2]
   by_cases h3 : hP2 p q = ((0, 0) : F2)
   ·rw [if_pos h3]
    by_cases h4 : rP2 p q = ((0, 0) : F2)
    ·rw [if_pos h4]
     exact pq (P := prog) (env := [wI, sX, rZ, ub, qZ]) ⟨se, rg, qu, sj, qn, tt0⟩ func87 0 (oL [(6, wO 1), (11, wO 1), (79, wO 0), (82, wO 0)]) (by kernel_rfl) (ai h4 (ai h3 (ai h2 (ai h1 tt0))))
    ·rw [if_neg h4]
     refine Gives.same (r := .ag ([.m p.1.1, .m p.1.2, .m p.2.1.1, .m p.2.1.2, .c (.int .u64 0), .c (.int .u64 0), .c (.int .u64 0), .c (.int .u64 0), .c (.int .u64 0), .c (.int .u64 0), .c (.int .u64 0), .c (.int .u64 0), .c (.int .u64 0), .c (.int .u64 0), .c (.int .u64 0), .c (.int .u64 0)])) (pq (P := prog) (env := [wI, sX, rZ, ub, qZ]) ⟨se, rg, qu, sj, qn, tt0⟩ func87 0 (oL [(6, wO 1), (11, wO 1), (79, wO 0), (82, wO 1)]) (by kernel_rfl) (ai h4 (ai h3 (ai h2 (ai h1 tt0))))) (qV rfl rfl ?_)
     show flat ([.m p.1.1, .m p.1.2, .m p.2.1.1, .m p.2.1.2] ++ m2 ((0, 0) : F2)) = flat ([.m p.1.1, .m p.1.2, .m p.2.1.1, .m p.2.1.2] ++ [.c (.int .u64 0), .c (.int .u64 0), .c (.int .u64 0), .c (.int .u64 0), .c (.int .u64 0), .c (.int .u64 0), .c (.int .u64 0), .c (.int .u64 0), .c (.int .u64 0), .c (.int .u64 0), .c (.int .u64 0), .c (.int .u64 0)])
     rw [pO, pO, yu]
   ·rw [if_neg h3]
    exact pq (P := prog) (env := [wI, sX, rZ, ub, qZ]) ⟨se, rg, qu, sj, qn, tt0⟩ func87 0 (oL [(6, wO 1), (11, wO 1), (79, wO 1)]) (by kernel_rfl) (ai h3 (ai h2 (ai h1 tt0)))
def yo : Entry := r6 87 Do.x Do.x (fun p q => [(none, .ag (pc2 (yB p q)))])
theorem vz : yo.OK prog := qw (fun args w => Go.Proofs.enters_of (P := prog) func87 (by kernel_rfl) rfl args w) (fun p q => only (aah p q))
def Bj (p : Pt2) : List Ch := [.m p.1.1, .m p.1.2, .m p.2.1.1, .m p.2.1.2, .c (.int .u64 0), .c (.int .u64 0), .c (.int .u64 0), .c (.int .u64 0), .c (.int .u64 0), .c (.int .u64 0), .c (.int .u64 0), .c (.int .u64 0), .c (.int .u64 0), .c (.int .u64 0), .c (.int .u64 0), .c (.int .u64 0), .m (pJ p 1).1.1, .m (pJ p 1).1.2, .m (pJ p 1).2.1.1, .m (pJ p 1).2.1.2, .m (pJ p 1).2.2.1, .m (pJ p 1).2.2.2, .m (pJ p 2).1.1, .m (pJ p 2).1.2, .m (pJ p 2).2.1.1, .m (pJ p 2).2.1.2, .m (pJ p 2).2.2.1, .m (pJ p 2).2.2.2, .m (pJ p 3).1.1, .m (pJ p 3).1.2, .m (pJ p 3).2.1.1, .m (pJ p 3).2.1.2, .m (pJ p 3).2.2.1, .m (pJ p 3).2.2.2, .m (pJ p 4).1.1, .m (pJ p 4).1.2, .m (pJ p 4).2.1.1, .m (pJ p 4).2.1.2, .m (pJ p 4).2.2.1, .m (pJ p 4).2.2.2, .m (pJ p 5).1.1, .m (pJ p 5).1.2, .m (pJ p 5).2.1.1, .m (pJ p 5).2.1.2, .m (pJ p 5).2.2.1, .m (pJ p 5).2.2.2, .m (pJ p 6).1.1, .m (pJ p 6).1.2, .m (pJ p 6).2.1.1, .m (pJ p 6).2.1.2, .m (pJ p 6).2.2.1, .m (pJ p 6).2.2.2, .m (pJ p 7).1.1, .m (pJ p 7).1.2, .m (pJ p 7).2.1.1, .m (pJ p 7).2.1.2, .m (pJ p 7).2.2.1, .m (pJ p 7).2.2.2, .m (pJ p 8).1.1, .m (pJ p 8).1.2, .m (pJ p 8).2.1.1, .m (pJ p 8).2.1.2, .m (pJ p 8).2.2.1, .m (pJ p 8).2.2.2, .m (pJ p 9).1.1, .m (pJ p 9).1.2, .m (pJ p 9).2.1.1, .m (pJ p 9).2.1.2, .m (pJ p 9).2.2.1, .m (pJ p 9).2.2.2, .m (pJ p 10).1.1, .m (pJ p 10).1.2, .m (pJ p 10).2.1.1, .m (pJ p 10).2.1.2, .m (pJ p 10).2.2.1, .m (pJ p 10).2.2.2, .m (pJ p 11).1.1, .m (pJ p 11).1.2, .m (pJ p 11).2.1.1, .m (pJ p 11).2.1.2, .m (pJ p 11).2.2.1, .m (pJ p 11).2.2.2, .m (pJ p 12).1.1, .m (pJ p 12).1.2, .m (pJ p 12).2.1.1, .m (pJ p 12).2.1.2, .m (pJ p 12).2.2.1, .m (pJ p 12).2.2.2, .m (pJ p 13).1.1, .m (pJ p 13).1.2, .m (pJ p 13).2.1.1, .m (pJ p 13).2.1.2, .m (pJ p 13).2.2.1, .m (pJ p 13).2.2.2, .m (pJ p 14).1.1, .m (pJ p 14).1.2, .m (pJ p 14).2.1.1, .m (pJ p 14).2.1.2, .m (pJ p 14).2.2.1, .m (pJ p 14).2.2.2, .m (pJ p 15).1.1, .m (pJ p 15).1.2, .m (pJ p 15).2.1.1, .m (pJ p 15).2.1.2, .m (pJ p 15).2.2.1, .m (pJ p 15).2.2.2]
theorem MZ (p : Pt2) : (flat (pc2 p)).length = 36 := by rw [uj]; rfl
theorem HH (p : Pt2) : flat (Bj p) = (List.range 16).flatMap (fun j => flat (pc2 (pJ p j))) := by
 have e0 : flat (pc2 (pJ p 0)) = flat [.m p.1.1, .m p.1.2, .m p.2.1.1, .m p.2.1.2, .c (.int .u64 0), .c (.int .u64 0), .c (.int .u64 0), .c (.int .u64 0), .c (.int .u64 0), .c (.int .u64 0), .c (.int .u64 0), .c (.int .u64 0), .c (.int .u64 0), .c (.int .u64 0), .c (.int .u64 0), .c (.int .u64 0)] := by
  show flat ([.m p.1.1, .m p.1.2, .m p.2.1.1, .m p.2.1.2] ++ m2 ((0, 0) : F2)) = flat ([.m p.1.1, .m p.1.2, .m p.2.1.1, .m p.2.1.2] ++ [.c (.int .u64 0), .c (.int .u64 0), .c (.int .u64 0), .c (.int .u64 0), .c (.int .u64 0), .c (.int .u64 0), .c (.int .u64 0), .c (.int .u64 0), .c (.int .u64 0), .c (.int .u64 0), .c (.int .u64 0), .c (.int .u64 0)])
  rw [pO, pO, yu]
 have e1 : Bj p = [.m p.1.1, .m p.1.2, .m p.2.1.1, .m p.2.1.2, .c (.int .u64 0), .c (.int .u64 0), .c (.int .u64 0), .c (.int .u64 0), .c (.int .u64 0), .c (.int .u64 0), .c (.int .u64 0), .c (.int .u64 0), .c (.int .u64 0), .c (.int .u64 0), .c (.int .u64 0), .c (.int .u64 0)] ++ (pc2 (pJ p 1) ++ (pc2 (pJ p 2) ++ (pc2 (pJ p 3) ++ (pc2 (pJ p 4) ++ (pc2 (pJ p 5) ++ (pc2 (pJ p 6) ++ (pc2 (pJ p 7) ++ (pc2 (pJ p 8) ++ (pc2 (pJ p 9) ++ (pc2 (pJ p 10) ++ (pc2 (pJ p 11) ++ (pc2 (pJ p 12) ++ (pc2 (pJ p 13) ++ (pc2 (pJ p 14) ++ pc2 (pJ p 15))))))))))))))) := rfl
 rw [e1]
 simp only [pO, ← e0]
 simp [List.range_succ_eq_map, List.flatMap]
theorem FP (p : Pt2) (j : Nat) (h : j < 16) : ((flat (Bj p)).drop (0 + j * 36)).take 36 = flat (pc2 (pJ p j)) := by
 rw [Nat.zero_add, HH]
 exact yb (fun j => flat (pc2 (pJ p j))) 36 (fun j => MZ _) 16 j h
def uC (r : Array Tmp × Code × Code) (p : Pt2) (k : Nat) (b : Bool) (z : Int) (o : List Ch) : LState := { n := 32, sl := [(0, .yd 235), (1, .p 230 0), (3, .v (.bool b)), (4, vi0 z)], hp := [(0, .own (pc2 p) 114), (1, .own [.n 4 k] 28), (2, .own [.c (.int .u64 0), .c (.int .u64 0), .c (.int .u64 0), .c (.int .u64 0), .c (.int .u64 0), .c (.int .u64 0), .c (.int .u64 0), .c (.int .u64 0), .c (.int .u64 0), .c (.int .u64 0), .c (.int .u64 0), .c (.int .u64 0), .c (.int .u64 0), .c (.int .u64 0), .c (.int .u64 0), .c (.int .u64 0), .c (.int .u64 0), .c (.int .u64 0), .c (.int .u64 0), .c (.int .u64 0), .c (.int .u64 0), .c (.int .u64 0), .c (.int .u64 0), .c (.int .u64 0), .c (.int .u64 0), .c (.int .u64 0), .c (.int .u64 0), .c (.int .u64 0), .c (.int .u64 0), .c (.int .u64 0), .c (.int .u64 0), .c (.int .u64 0), .c (.int .u64 0), .c (.int .u64 0), .c (.int .u64 0), .c (.int .u64 0)] 114), (3, .own (Bj p) 164), (226, .own o 114), (230, .own [.n 4 k] 28), (234, .dfd),
 (235, .lp .ready none ⟨43, .any, trOf [(5, .p 3 0), (7, .p 226 0)]⟩ r.1 r.2.1 r.2.2 234)] }
def Qf (r : Array Tmp × Code × Code) (p : Pt2) (k : Nat) (o : List Ch) : LState := { n := 32, sl := [], hp := [(0, .own (pc2 p) 114), (1, .own [.n 4 k] 28), (2, .own [.c (.int .u64 0), .c (.int .u64 0), .c (.int .u64 0), .c (.int .u64 0), .c (.int .u64 0), .c (.int .u64 0), .c (.int .u64 0), .c (.int .u64 0), .c (.int .u64 0), .c (.int .u64 0), .c (.int .u64 0), .c (.int .u64 0), .c (.int .u64 0), .c (.int .u64 0), .c (.int .u64 0), .c (.int .u64 0), .c (.int .u64 0), .c (.int .u64 0), .c (.int .u64 0), .c (.int .u64 0), .c (.int .u64 0), .c (.int .u64 0), .c (.int .u64 0), .c (.int .u64 0), .c (.int .u64 0), .c (.int .u64 0), .c (.int .u64 0), .c (.int .u64 0), .c (.int .u64 0), .c (.int .u64 0), .c (.int .u64 0), .c (.int .u64 0), .c (.int .u64 0), .c (.int .u64 0), .c (.int .u64 0), .c (.int .u64 0)] 114), (3, .own (Bj p) 164), (226, .own o 114), (230, .own [.n 4 k] 28), (234, .dfd),
 (235, .lp .ready none ⟨43, .any, trOf [(5, .p 3 0), (7, .p 226 0)]⟩ r.1 r.2.1 r.2.2 234)] }
theorem aaP (p q : Pt2) (k i : Nat) (hi : i < 64)  : Sound prog 236 false (pI f117 0) (uC (pD f49 0) p k true ((((i + 1 : Nat) : Int)) - 1) (pc2 q)).aa .normal (uC (pD f49 0) p k true (((i : Nat) : Int) - 1) (pc2 (yB (rK (rK (rK (rK q)))) (pJ p (dig k i))))).aa := by
 have hs := pG (P := prog) (X := qz _) (env := [sX, yo]) ⟨rg, vz, tt0⟩ (n := 2) (os := oL [(239, wO 1), (242, rO 2 (i / 16)), (243, rO 3 0), (247, rO 4 (4 * (i % 16))), (249, { ch := 1, hi := fun _ => dig k i }), (291, rO 2 (dig k i)), (292, { ch := 0, hi := fun _ => 0, ru := 8, cs := fun _ => pc2 (pJ p (dig k i)) })]) (fb := 236) (rd := false) (c := pI f117 0) (k := 238) (I := uC (pD f49 0) p k true ((((i + 1 : Nat) : Int)) - 1) (pc2 q)) (sk := [0, 1, 3, 4]) (hk := [0, 1, 2, 3, 226, 230, 234, 235]) (lk := [(235, [5, 7])]) (ex := .normal)
  (L := uC (pD f49 0) p k true (IntKind.i64.wrap ((((i + 1 : Nat) : Int) - 1) - 1)) (pc2 (yB (rK (rK (rK (rK q)))) (pJ p (dig k i))))) (by kernel_rfl) (ai (show rH (pc2 (pJ p (dig k i))) = 36 /\ ((flat (Bj p)).drop (0 + dig k i * 36)).take 36 = flat (pc2 (pJ p (dig k i))) from ⟨rfl, FP p _ (vK k i)⟩) (ai (show ((dig k i : Nat) : Int) = ((dig k i : Nat) : Int) /\ dig k i < 16 from ⟨rfl, vK k i⟩) (ai (zg k i) (ai (yP i) (ai (show 0 + i / 16 * 1 < 4 from by omega) (ai (yU i hi) (ai (show decide (((((i + 1 : Nat) : Int)) - 1) >= 0) = true from decide_eq_true (by omega)) tt0)))))))
 rw [show IntKind.i64.wrap ((((i + 1 : Nat) : Int) - 1) - 1) = ((i : Nat) : Int) - 1 by rw [pN]; omega] at hs
 exact hs
theorem aa5 (p q : Pt2) (k i : Nat) (hi : i < 64) (hd : ((dig k i : Nat) : Int) > 0) : Sound prog 236 false (pI f117 0) (uC (pD f49 0) p k false ((((i + 1 : Nat) : Int)) - 1) (pc2 q)).aa .normal (uC (pD f49 0) p k true (((i : Nat) : Int) - 1) (pc2 (yB (rK (rK (rK (rK q)))) (pJ p (dig k i))))).aa := by
 have hs := pG (P := prog) (X := qz _) (env := [sX, yo]) ⟨rg, vz, tt0⟩ (n := 2) (os := oL [(239, wO 1), (242, rO 2 (i / 16)), (243, rO 3 0), (247, rO 4 (4 * (i % 16))), (249, { ch := 1, hi := fun _ => dig k i }), (254, wO 1), (291, rO 2 (dig k i)), (292, { ch := 0, hi := fun _ => 0, ru := 8, cs := fun _ => pc2 (pJ p (dig k i)) })]) (fb := 236) (rd := false) (c := pI f117 0) (k := 238) (I := uC (pD f49 0) p k false ((((i + 1 : Nat) : Int)) - 1) (pc2 q)) (sk := [0, 1, 3, 4]) (hk := [0, 1, 2, 3, 226, 230, 234, 235]) (lk := [(235, [5, 7])]) (ex := .normal)
  (L := uC (pD f49 0) p k true (IntKind.i64.wrap ((((i + 1 : Nat) : Int) - 1) - 1)) (pc2 (yB (rK (rK (rK (rK q)))) (pJ p (dig k i))))) (by kernel_rfl) (ai (show rH (pc2 (pJ p (dig k i))) = 36 /\ ((flat (Bj p)).drop (0 + dig k i * 36)).take 36 = flat (pc2 (pJ p (dig k i))) from ⟨rfl, FP p _ (vK k i)⟩) (ai (show ((dig k i : Nat) : Int) = ((dig k i : Nat) : Int) /\ dig k i < 16 from ⟨rfl, vK k i⟩) (ai (show decide (((dig k i : Nat) : Int) > 0) = true from decide_eq_true hd) (ai (zg k i) (ai (yP i) (ai (show 0 + i / 16 * 1 < 4 from by omega) (ai (yU i hi) (ai (show decide (((((i + 1 : Nat) : Int)) - 1) >= 0) = true from decide_eq_true (by omega)) tt0))))))))
 rw [show IntKind.i64.wrap ((((i + 1 : Nat) : Int) - 1) - 1) = ((i : Nat) : Int) - 1 by rw [pN]; omega] at hs
 exact hs
theorem aau (p q : Pt2) (k i : Nat) (hi : i < 64) (hd : ¬ ((dig k i : Nat) : Int) > 0) : Sound prog 236 false (pI f117 0) (uC (pD f49 0) p k false ((((i + 1 : Nat) : Int)) - 1) (pc2 q)).aa .normal (uC (pD f49 0) p k false (((i : Nat) : Int) - 1) (pc2 q)).aa := by
 have hs := pG (P := prog) (X := qz _) (env := [sX, yo]) ⟨rg, vz, tt0⟩ (n := 2) (os := oL [(239, wO 1), (242, rO 2 (i / 16)), (243, rO 3 0), (247, rO 4 (4 * (i % 16))), (249, { ch := 1, hi := fun _ => dig k i }), (254, wO 2)]) (fb := 236) (rd := false) (c := pI f117 0) (k := 238) (I := uC (pD f49 0) p k false ((((i + 1 : Nat) : Int)) - 1) (pc2 q)) (sk := [0, 1, 3, 4]) (hk := [0, 1, 2, 3, 226, 230, 234, 235]) (lk := [(235, [5, 7])]) (ex := .normal)
  (L := uC (pD f49 0) p k false (IntKind.i64.wrap ((((i + 1 : Nat) : Int) - 1) - 1)) (pc2 q)) (by kernel_rfl) (ai (show decide (((dig k i : Nat) : Int) > 0) = false from decide_eq_false hd) (ai (zg k i) (ai (yP i) (ai (show 0 + i / 16 * 1 < 4 from by omega) (ai (yU i hi) (ai (show decide (((((i + 1 : Nat) : Int)) - 1) >= 0) = true from decide_eq_true (by omega)) tt0))))))
 rw [show IntKind.i64.wrap ((((i + 1 : Nat) : Int) - 1) - 1) = ((i : Nat) : Int) - 1 by rw [pN]; omega] at hs
 exact hs
theorem Rg (p q : Pt2) (k : Nat) (b : Bool) : Sound prog 236 false (pI f117 0) (uC (pD f49 0) p k b (((0 : Nat) : Int) - 1) (pc2 q)).aa (.exit 0) (Qf (pD f49 0) p k (pc2 q)).aa :=
 pG (P := prog) (X := qz _) (env := []) trivial (n := 2) (os := oL [(239, wO 2)]) (fb := 236) (rd := false) (c := pI f117 0) (k := 238) (I := uC (pD f49 0) p k b (((0 : Nat) : Int) - 1) (pc2 q)) (sk := []) (hk := [0, 1, 2, 3, 226, 230, 234, 235]) (lk := [(235, [5, 7])]) (ex := .exit 0)
  (L := Qf (pD f49 0) p k (pc2 q)) (by kernel_rfl) Mg.down
theorem Nx (p : Pt2) (k : Nat) (hk : k < 115792089237316195423570985008687907853269984665640564039457584007913129639936) (y : { i : Nat // i <= 64 }) : Sound prog 236 false (.loop (pI f117 0)) (uC (pD f49 0) p k (bgn k (64 - y.val)) (((y.val : Nat) : Int) - 1) (pc2 (vT p k (64 - y.val)))).aa (.exit 0) (Qf (pD f49 0) p k (pc2 (vT p k 64))).aa := by
 refine qr (m := fun y : { i : Nat // i <= 64 } => y.val) (fun y => uC (pD f49 0) p k (bgn k (64 - y.val)) (((y.val : Nat) : Int) - 1) (pc2 (vT p k (64 - y.val)))) (by simp) (fun y => ?_) y
 obtain ⟨i, hi⟩ := y
 cases i with
 | zero => exact .inr (Rg p _ k _)
 | succ i =>
  refine .inl ⟨⟨i, by omega⟩, Nat.lt_succ_self i, ?_⟩
  have e1 : 64 - i = (64 - (i + 1)) + 1 := by omega
  have e2 : 63 - (64 - (i + 1)) = i := by omega
  have hb := At k (64 - (i + 1)) (by omega)
  rw [e2, ← e1] at hb
  have hm : vT p k (64 - i) = yB (rK (rK (rK (rK (vT p k (64 - (i + 1))))))) (pJ p (dig k i)) := by
   rw [e1]
   show yB _ (pJ p (dig k (63 - (64 - (i + 1))))) = _
   rw [e2]
  simp only
  rw [hm]
  cases hc : bgn k (64 - (i + 1)) with
  | true =>
   rw [hc] at hb
   simp only [Bool.true_or] at hb
   rw [hb]
   exact aaP p _ k i (by omega)
  | false =>
   rw [hc] at hb
   simp only [Bool.false_or] at hb
   by_cases hd : ((dig k i : Nat) : Int) > 0
   ·rw [hb, decide_eq_true (by omega)]
    exact aa5 p _ k i (by omega) hd
   ·have h0 : dig k i = 0 := by omega
    rw [hb, decide_eq_false (by omega)]
    have hn := Cr p k (64 - (i + 1)) (Dn hk _ (by omega) hc)
    rw [hn, h0, te _ rfl, te _ rfl, te _ rfl, te _ rfl, E5 _ _ rfl]
    exact aau p _ k i (by omega) hd
theorem Si (p : Pt2) (k : Nat) (hk : k < 115792089237316195423570985008687907853269984665640564039457584007913129639936) : Sound prog 236 false (.loop (pI f117 0)) (uC (pD f49 0) p k false 63 [.m p.1.1, .m p.1.2, .m p.2.1.1, .m p.2.1.2, .c (.int .u64 0), .c (.int .u64 0), .c (.int .u64 0), .c (.int .u64 0), .c (.int .u64 0), .c (.int .u64 0), .c (.int .u64 0), .c (.int .u64 0), .c (.int .u64 0), .c (.int .u64 0), .c (.int .u64 0), .c (.int .u64 0)]).aa (.exit 0) (Qf (pD f49 0) p k (pc2 (vT p k 64))).aa := by
 have hl := Nx p k hk ⟨64, Nat.le_refl _⟩
 simp only [Nat.sub_self, FQ hk] at hl
 refine Sound.pre (J := uC (pD f49 0) p k false (((64 : Nat) : Int) - 1) (pc2 (vT p k 0))) hl [] (by kernel_rfl) ?_
 have e0 : flat [.m p.1.1, .m p.1.2, .m p.2.1.1, .m p.2.1.2, .c (.int .u64 0), .c (.int .u64 0), .c (.int .u64 0), .c (.int .u64 0), .c (.int .u64 0), .c (.int .u64 0), .c (.int .u64 0), .c (.int .u64 0), .c (.int .u64 0), .c (.int .u64 0), .c (.int .u64 0), .c (.int .u64 0)] = flat (pc2 (vT p k 0)) := by
  symm
  show flat ([.m p.1.1, .m p.1.2, .m p.2.1.1, .m p.2.1.2] ++ m2 ((0, 0) : F2)) = flat ([.m p.1.1, .m p.1.2, .m p.2.1.1, .m p.2.1.2] ++ [.c (.int .u64 0), .c (.int .u64 0), .c (.int .u64 0), .c (.int .u64 0), .c (.int .u64 0), .c (.int .u64 0), .c (.int .u64 0), .c (.int .u64 0), .c (.int .u64 0), .c (.int .u64 0), .c (.int .u64 0), .c (.int .u64 0)])
  rw [pO, pO, yu]
 exact ⟨⟨rfl, rr0, rfl, rfl, tt0⟩, ⟨rr0, rr0, rr0, rr0, ⟨rfl, e0⟩, rr0, tt0, ⟨⟨rfl, rfl, rfl, rfl, rfl, rfl, rfl⟩, ug (by kernel_rfl)⟩, tt0⟩⟩
abbrev NZ (p : Pt2) : List Ch := [.m p.1.1, .m p.1.2, .m p.2.1.1, .m p.2.1.2, .c (.int .u64 0), .c (.int .u64 0), .c (.int .u64 0), .c (.int .u64 0), .c (.int .u64 0), .c (.int .u64 0), .c (.int .u64 0), .c (.int .u64 0), .c (.int .u64 0), .c (.int .u64 0), .c (.int .u64 0), .c (.int .u64 0)]
theorem Yx (p : Pt2) (k : Nat) (hk : PZ k) : Gives prog 49 [.t (.ag (pc2 p)), .t (.ag [.n 4 k])] (.ag (pc2 (vT p k 64))) :=
 pz (P := prog) (X := qz _) (env := [sX, yo]) ⟨rg, vz, tt0⟩ func49 2 (oL [(238, lpO { I := uC (pD f49 0) p k false 63 (NZ p), ex := .exit 0, E := Qf (pD f49 0) p k (pc2 (vT p k 64)), fr := 239, lk := [(235, [5, 7])] })]) (by kernel_rfl) ⟨_, rfl⟩ (ai (show some (uC (pD f49 0) p k false 63 (NZ p)) = some (uC (pD f49 0) p k false 63 (NZ p)) from rfl) (ai (Si p k hk) tt0))
def CU : Entry := r6 49 Do.x EJ.x (fun p k => [(some (k < 115792089237316195423570985008687907853269984665640564039457584007913129639936), .ag (pc2 (vT p k 64)))])
theorem zn : CU.OK prog := qw (fun args w => Go.Proofs.enters_of (P := prog) func49 (by kernel_rfl) rfl args w) (fun p k => ur (fun h => Yx p k h))
end Go.Proofs.YtokjhbmmdmeafaaGreat
set_option linter.unusedSimpArgs false
set_option linter.unusedVariables false
namespace Go.Proofs.YtokjhbmmdmeafaaGreat
open Go.Ev Go.RowKit
open Tryz
theorem FK {a b : F2} (e : flat (m2 a) = flat (m2 b)) : a = b := by
 have := wA [a.1, a.2] [b.1, b.2] rfl e
 simp only [List.cons.injEq, and_true] at this
 exact uW this.1 this.2
abbrev y7 (x : N2) : List Ch := [.q (of2 x).1, .q (of2 x).2]
theorem SC (x y : N2) (hx : qG x) (hy : qG y) (h : ¬ flat (y7 x) = flat [.n 6 x.1, .n 6 x.2]) : Gives prog 86 [.t (.ag [.n 6 x.1, .n 6 x.2, .n 6 y.1, .n 6 y.2, .c (.bool false)])] (.v (.bool false)) :=
 pq (P := prog) (env := [AH, yx, qZ, rZ, sE]) ⟨tq, tO, qn, qu, qe, tt0⟩ func86 1 (oL [(23, wO 1)]) (by kernel_rfl) (ai (show ¬ flat (y7 x) = flat [.n 6 x.1, .n 6 x.2] from h) (ai (show qG y from hy) (ai (show qG x from hx) tt0)))
def O2 {x : N2} (y : N2) (hx : qG x) (hy : qG y) (h : flat [.q (of2 x).1, .q (of2 x).2] = flat [.n 6 x.1, .n 6 x.2]) := PLift.up (ai (show flat (y7 x) = flat [.n 6 x.1, .n 6 x.2] from h) (ai (show qG y from hy) (ai (show qG x from hx) tt0)))
abbrev yR (y : N2) : List Ch := [.q (of2 y).1, .q (of2 y).2]
theorem SN (x y : N2) (hx : qG x) (hy : qG y) (h : flat (y7 x) = flat [.n 6 x.1, .n 6 x.2]) (h2 : ¬ flat (yR y) = flat [.n 6 y.1, .n 6 y.2]) : Gives prog 86 [.t (.ag [.n 6 x.1, .n 6 x.2, .n 6 y.1, .n 6 y.2, .c (.bool false)])] (.v (.bool false)) :=
 pq (P := prog) (env := [AH, yx, qZ, rZ, sE]) ⟨tq, tO, qn, qu, qe, tt0⟩ func86 1 (oL [(23, wO 0), (29, wO 1)]) (by kernel_rfl) (ai (show ¬ flat (yR y) = flat [.n 6 y.1, .n 6 y.2] from h2)
   (O2 y hx hy h).down)
abbrev IC (x : N2) := qt (pM (pM (of2 x) (of2 x)) (of2 x)) (ofP (4 % 18446744073709551616), ofP (4 % 18446744073709551616))
theorem SF (x y : N2) (hx : qG x) (hy : qG y) (h : flat (y7 x) = flat [.n 6 x.1, .n 6 x.2]) (h2 : flat (yR y) = flat [.n 6 y.1, .n 6 y.2]) (h3 : ¬ flat (m2 (pM (of2 y) (of2 y))) = flat (m2 (IC x))) : Gives prog 86 [.t (.ag [.n 6 x.1, .n 6 x.2, .n 6 y.1, .n 6 y.2, .c (.bool false)])] (.v (.bool false)) :=
 pq (P := prog) (env := [AH, yx, qZ, rZ, sE]) ⟨tq, tO, qn, qu, qe, tt0⟩ func86 1 (oL [(23, wO 0), (29, wO 0), (42, wO 1)]) (by kernel_rfl) (ai (show ¬ flat (m2 (pM (of2 y) (of2 y))) = flat (m2 (IC x)) from h3) (ai (show flat (yR y) = flat [.n 6 y.1, .n 6 y.2] from h2)
   (O2 y hx hy h).down))
theorem T9 (x y : N2) (hx : qG x) (hy : qG y) (h : flat (y7 x) = flat [.n 6 x.1, .n 6 x.2]) (h2 : flat (yR y) = flat [.n 6 y.1, .n 6 y.2]) (h3 : flat (m2 (pM (of2 y) (of2 y))) = flat (m2 (IC x))) : Gives prog 86 [.t (.ag [.n 6 x.1, .n 6 x.2, .n 6 y.1, .n 6 y.2, .c (.bool false)])] (.v (.bool true)) :=
 pq (P := prog) (env := [AH, yx, qZ, rZ, sE]) ⟨tq, tO, qn, qu, qe, tt0⟩ func86 1 (oL [(23, wO 0), (29, wO 0), (42, wO 0)]) (by kernel_rfl) (ai (show flat (m2 (pM (of2 y) (of2 y))) = flat (m2 (IC x)) from h3) (ai (show flat (yR y) = flat [.n 6 y.1, .n 6 y.2] from h2)
   (O2 y hx hy h).down))
abbrev IA : List Ch := [.c (.int .u64 0), .c (.int .u64 0), .c (.int .u64 0), .c (.int .u64 0), .c (.int .u64 0), .c (.int .u64 0), .c (.int .u64 0), .c (.int .u64 0), .c (.int .u64 0), .c (.int .u64 0), .c (.int .u64 0), .c (.int .u64 0), .c (.int .u64 0), .c (.int .u64 0), .c (.int .u64 0), .c (.int .u64 0), .c (.int .u64 0), .c (.int .u64 0), .c (.int .u64 0), .c (.int .u64 0), .c (.int .u64 0), .c (.int .u64 0), .c (.int .u64 0), .c (.int .u64 0), .c (.bool true)]
abbrev IF (x : N2) (y : N2) : List Ch := [.n 6 x.1, .n 6 x.2, .n 6 y.1, .n 6 y.2, .c (.bool true)]
theorem Sr (x y : N2) (h : flat (IF x y) = flat IA) : Gives prog 86 [.t (.ag [.n 6 x.1, .n 6 x.2, .n 6 y.1, .n 6 y.2, .c (.bool true)])] (.v (.bool true)) :=
 pq (P := prog) (env := [AH, yx, qZ, rZ, sE]) ⟨tq, tO, qn, qu, qe, tt0⟩ func86 1 (oL [(6, wO 0)]) (by kernel_rfl) (ai (show flat (IF x y) = flat IA from h) tt0)
theorem R6 (x y : N2) (h : ¬ flat (IF x y) = flat IA) : Gives prog 86 [.t (.ag [.n 6 x.1, .n 6 x.2, .n 6 y.1, .n 6 y.2, .c (.bool true)])] (.v (.bool false)) :=
 pq (P := prog) (env := [AH, yx, qZ, rZ, sE]) ⟨tq, tO, qn, qu, qe, tt0⟩ func86 1 (oL [(6, wO 1)]) (by kernel_rfl) (ai (show ¬ flat (IF x y) = flat IA from h) tt0)
theorem A7 (x y : N2) : flat (m2 (pM (of2 y) (of2 y))) = flat (m2 (qt (pM (pM (of2 x) (of2 x)) (of2 x)) (ofP (4 % 18446744073709551616), ofP (4 % 18446744073709551616)))) ↔ pM (of2 y) (of2 y) = rW (of2 x) := by
 rw [show (4 % 18446744073709551616 : Nat) = 4 from rfl]
 unfold rW
 exact ⟨fun e => FK e, fun e => by rw [e]⟩
theorem QU (a : A2) (hs : sml2 a) (h : may2 a) : Gives prog 86 [.t (.ag [.n 6 a.1.1, .n 6 a.1.2, .n 6 a.2.1.1, .n 6 a.2.1.2, .c (.bool a.2.2)])] (.v (.bool true)) := by
 obtain ⟨x, y, b⟩ := a
 obtain ⟨hx, hy⟩ := hs
 cases b with
 | true => exact Sr x y ((B5 hx hy true).2 (by simpa only [may2, if_true] using h))
 | false =>
  have h : is2 x /\ is2 y /\ pM (of2 y) (of2 y) = rW (of2 x) := h
  exact T9 x y hx hy ((tH hx).2 h.1) ((tH hy).2 h.2.1) ((A7 x y).2 h.2.2)
theorem ST (a : A2) (hs : sml2 a) (h : ¬ may2 a) : Gives prog 86 [.t (.ag [.n 6 a.1.1, .n 6 a.1.2, .n 6 a.2.1.1, .n 6 a.2.1.2, .c (.bool a.2.2)])] (.v (.bool false)) := by
 obtain ⟨x, y, b⟩ := a
 obtain ⟨hx, hy⟩ := hs
 cases b with
 | true => exact R6 x y (fun e => h (by simpa only [may2, if_true] using (B5 hx hy true).1 e))
 | false =>
  have h : ¬ (is2 x /\ is2 y /\ pM (of2 y) (of2 y) = rW (of2 x)) := h
  by_cases h1 : is2 x
  ·by_cases h2 : is2 y
   ·exact SF x y hx hy ((tH hx).2 h1) ((tH hy).2 h2) (fun e => h ⟨h1, h2, (A7 x y).1 e⟩)
   ·exact SN x y hx hy ((tH hx).2 h1) (fun e => h2 ((tH hy).1 e))
  ·exact SC x y hx hy (fun e => h1 ((tH hx).1 e))
def IR (a : A2) : tg := [(some (sml2 a /\ may2 a), .v (.bool true)), (some (sml2 a /\ ¬ may2 a), .v (.bool false))]
theorem FR {f : FuncId} {args : A2 -> List XV} (h1 : ∀ a, sml2 a -> may2 a -> Gives prog f (args a) (.v (.bool true))) (h2 : ∀ a, sml2 a -> ¬ may2 a -> Gives prog f (args a) (.v (.bool false))) : ∀ a c r, (c, r) ∈ IR a -> c.getD True -> Gives prog f (args a) r := by
 intro a c r hm hc
 simp only [IR, List.mem_cons, pi0, List.not_mem_nil, or_false] at hm
 rcases hm with ⟨rfl, rfl⟩ | ⟨rfl, rfl⟩
 ·exact h1 a hc.1 hc.2
 ·exact h2 a hc.1 hc.2
def VS : Entry := pS 86 Ja.x IR
theorem Je : VS.OK prog := pE (fun args w => Go.Proofs.enters_of (P := prog) func86 (by kernel_rfl) rfl args w) (FR QU ST)
theorem MJ (a : A2) (hs : sml2 a) (h : may2 a) : Gives prog 47 [.t (.ag [.n 6 a.1.1, .n 6 a.1.2, .n 6 a.2.1.1, .n 6 a.2.1.2, .c (.bool a.2.2)])] (.v (.bool true)) :=
 pq (P := prog) (env := [VS]) ⟨Je, tt0⟩ func47 0 (oL [(3, wO 0)]) (by kernel_rfl) (ai (show sml2 a /\ may2 a from ⟨hs, h⟩) tt0)
theorem Qn (a : A2) (hs : sml2 a) (h : ¬ may2 a) : Gives prog 47 [.t (.ag [.n 6 a.1.1, .n 6 a.1.2, .n 6 a.2.1.1, .n 6 a.2.1.2, .c (.bool a.2.2)])] (.v (.bool false)) :=
 pq (P := prog) (env := [VS]) ⟨Je, tt0⟩ func47 0 (oL [(3, wO 1)]) (by kernel_rfl) (ai (show sml2 a /\ ¬ may2 a from ⟨hs, h⟩) tt0)
def CK : Entry := pS 47 Ja.x IR
theorem yh : CK.OK prog := pE (fun args w => Go.Proofs.enters_of (P := prog) func47 (by kernel_rfl) rfl args w) (FR MJ Qn)
theorem Sk (x y : N2) : Gives prog 48 [.t (.ag [.n 6 x.1, .n 6 x.2, .n 6 y.1, .n 6 y.2, .c (.bool true)])] (.ag [.m (ofP (1 % 18446744073709551616)), .c (.int .u64 0), .c (.int .u64 0), .c (.int .u64 0), .c (.int .u64 0), .c (.int .u64 0), .c (.int .u64 0), .m (ofP (1 % 18446744073709551616)), .c (.int .u64 0), .c (.int .u64 0), .c (.int .u64 0), .c (.int .u64 0), .c (.int .u64 0), .c (.int .u64 0), .c (.int .u64 0), .c (.int .u64 0), .c (.int .u64 0), .c (.int .u64 0), .c (.int .u64 0), .c (.int .u64 0), .c (.int .u64 0), .c (.int .u64 0), .c (.int .u64 0), .c (.int .u64 0), .c (.int .u64 0), .c (.int .u64 0)]) :=
 pq (P := prog) (env := [AH, sE]) ⟨tq, qe, tt0⟩ func48 0 (oL []) (by kernel_rfl) trivial
theorem Rz (x y : N2) (hx : qG x) (hy : qG y) : Gives prog 48 [.t (.ag [.n 6 x.1, .n 6 x.2, .n 6 y.1, .n 6 y.2, .c (.bool false)])] (.ag [.m (of2 x).1, .m (of2 x).2, .m (of2 y).1, .m (of2 y).2, .m (ofP (1 % 18446744073709551616)), .c (.int .u64 0), .c (.int .u64 0), .c (.int .u64 0), .c (.int .u64 0), .c (.int .u64 0), .c (.int .u64 0)]) :=
 pq (P := prog) (env := [AH, sE]) ⟨tq, qe, tt0⟩ func48 0 (oL []) (by kernel_rfl) (ai (show qG y from hy) (ai (show qG x from hx) tt0))
theorem PP (x y : N2) : in2 (x, y, false) = (of2 x, of2 y, (1, 0)) := by unfold in2; exact if_neg (by simp)
theorem Or (x y : N2) : in2 (x, y, true) = ((1, 0), (1, 0), (0, 0)) := by unfold in2; exact if_pos rfl
theorem Ov : flat [.m (ofP (1 % 18446744073709551616)), .c (.int .u64 0), .c (.int .u64 0), .c (.int .u64 0), .c (.int .u64 0), .c (.int .u64 0), .c (.int .u64 0)] = flat [.m (1 : Fin Pp), .m 0] := by kernel_rfl
theorem Vt : flat [.c (.int .u64 0), .c (.int .u64 0), .c (.int .u64 0), .c (.int .u64 0), .c (.int .u64 0), .c (.int .u64 0), .c (.int .u64 0), .c (.int .u64 0), .c (.int .u64 0), .c (.int .u64 0), .c (.int .u64 0), .c (.int .u64 0)] = flat [.m (0 : Fin Pp), .m 0] := by kernel_rfl
theorem Kr (x y : F2) : flat [.m x.1, .m x.2, .m y.1, .m y.2, .m (ofP (1 % 18446744073709551616)), .c (.int .u64 0), .c (.int .u64 0), .c (.int .u64 0), .c (.int .u64 0), .c (.int .u64 0), .c (.int .u64 0)] = flat (pc2 (x, y, (1, 0))) := by
 show flat ([.m x.1, .m x.2, .m y.1, .m y.2] ++ [.m (ofP (1 % 18446744073709551616)), .c (.int .u64 0), .c (.int .u64 0), .c (.int .u64 0), .c (.int .u64 0), .c (.int .u64 0), .c (.int .u64 0)]) = flat ([.m x.1, .m x.2, .m y.1, .m y.2] ++ [.m (1 : Fin Pp), .m 0])
 rw [pO, pO, Ov]
theorem KD : flat [.m (ofP (1 % 18446744073709551616)), .c (.int .u64 0), .c (.int .u64 0), .c (.int .u64 0), .c (.int .u64 0), .c (.int .u64 0), .c (.int .u64 0), .m (ofP (1 % 18446744073709551616)), .c (.int .u64 0), .c (.int .u64 0), .c (.int .u64 0), .c (.int .u64 0), .c (.int .u64 0), .c (.int .u64 0), .c (.int .u64 0), .c (.int .u64 0), .c (.int .u64 0), .c (.int .u64 0), .c (.int .u64 0), .c (.int .u64 0), .c (.int .u64 0), .c (.int .u64 0), .c (.int .u64 0), .c (.int .u64 0), .c (.int .u64 0), .c (.int .u64 0)] = flat (pc2 ((1, 0), (1, 0), (0, 0))) := by
 show flat ([.m (ofP (1 % 18446744073709551616)), .c (.int .u64 0), .c (.int .u64 0), .c (.int .u64 0), .c (.int .u64 0), .c (.int .u64 0), .c (.int .u64 0)] ++ ([.m (ofP (1 % 18446744073709551616)), .c (.int .u64 0), .c (.int .u64 0), .c (.int .u64 0), .c (.int .u64 0), .c (.int .u64 0), .c (.int .u64 0)] ++ [.c (.int .u64 0), .c (.int .u64 0), .c (.int .u64 0), .c (.int .u64 0), .c (.int .u64 0), .c (.int .u64 0), .c (.int .u64 0), .c (.int .u64 0), .c (.int .u64 0), .c (.int .u64 0), .c (.int .u64 0), .c (.int .u64 0)])) = flat ([.m (1 : Fin Pp), .m 0] ++ ([.m (1 : Fin Pp), .m 0] ++ [.m (0 : Fin Pp), .m 0]))
 simp only [pO]
 rw [Ov, Vt]
theorem ab4 (a : A2) (hs : sml2 a) : Gives prog 48 [.t (.ag [.n 6 a.1.1, .n 6 a.1.2, .n 6 a.2.1.1, .n 6 a.2.1.2, .c (.bool a.2.2)])] (.ag (pc2 (in2 a))) := by
 obtain ⟨x, y, b⟩ := a
 obtain ⟨hx, hy⟩ := hs
 cases b with
 | true => rw [Or x y]; exact Gives.same (Sk x y) (qV rfl rfl KD).symm
 | false => rw [PP x y]; exact Gives.same (Rz x y hx hy) (qV rfl rfl (Kr _ _)).symm
def IP : Entry := pS 48 Ja.x (fun a => [(some (sml2 a), .ag (pc2 (in2 a)))])
theorem AD : IP.OK prog := pE (fun args w => Go.Proofs.enters_of (P := prog) func48 (by kernel_rfl) rfl args w) (fun a => ur (fun h => ab4 a h))
def SL : Entry := xI 50 [(none, .ag [.c (.int .u64 18446744069414584321), .c (.int .u64 6034159408538082302), .c (.int .u64 3691218898639771653), .c (.int .u64 8353516859464449352)])]
theorem DC : SL.OK prog := va (fun args w => Go.Proofs.enters_of (P := prog) func50 (by kernel_rfl) rfl args w)
 (only (pq (P := prog) (env := []) trivial func50 0 o0 (by kernel_rfl) tt0))
def MA (a : A2) (hs : sml2 a) (h : may2 a) := PLift.up (ai To (ai (show sml2 a from hs) (ai (show sml2 a /\ may2 a from ⟨hs, h⟩) tt0)))
theorem MB (a : A2) (hs : sml2 a) (h : may2 a) (g : sB a) : Gives prog 21 [.t (.ag [.n 6 a.1.1, .n 6 a.1.2, .n 6 a.2.1.1, .n 6 a.2.1.2, .c (.bool a.2.2)])] (.v (.bool true)) :=
 pq (P := prog) (env := [CK, IP, SL, CU, wI]) ⟨yh, AD, DC, zn, se, tt0⟩ func21 0 (oL [(3, wO 0), (10, wO 0)]) (by kernel_rfl) (ai (show (vT (in2 a) Rr 64).2.2 = (0, 0) from g)
   (MA a hs h).down)
theorem Px (a : A2) (hs : sml2 a) (h : may2 a) (g : ¬ sB a) : Gives prog 21 [.t (.ag [.n 6 a.1.1, .n 6 a.1.2, .n 6 a.2.1.1, .n 6 a.2.1.2, .c (.bool a.2.2)])] (.v (.bool false)) :=
 pq (P := prog) (env := [CK, IP, SL, CU, wI]) ⟨yh, AD, DC, zn, se, tt0⟩ func21 0 (oL [(3, wO 0), (10, wO 1)]) (by kernel_rfl) (ai (show ¬ (vT (in2 a) Rr 64).2.2 = (0, 0) from g)
   (MA a hs h).down)
theorem Sz (a : A2) (hs : sml2 a) (h : ¬ may2 a) : Gives prog 21 [.t (.ag [.n 6 a.1.1, .n 6 a.1.2, .n 6 a.2.1.1, .n 6 a.2.1.2, .c (.bool a.2.2)])] (.v (.bool false)) :=
 pq (P := prog) (env := [CK, IP, SL, CU, wI]) ⟨yh, AD, DC, zn, se, tt0⟩ func21 0 (oL [(3, wO 1)]) (by kernel_rfl) (ai (show sml2 a /\ ¬ may2 a from ⟨hs, h⟩) tt0)
def OY : Entry := pS 21 Ja.x (fun a => [(some (sml2 a /\ may2 a /\ sB a), .v (.bool true)), (some (sml2 a /\ may2 a /\ ¬ sB a), .v (.bool false)), (some (sml2 a /\ ¬ may2 a), .v (.bool false))])
theorem Qd : OY.OK prog := pE (fun args w => Go.Proofs.enters_of (P := prog) func21 (by kernel_rfl) rfl args w) (fun a c r hm hc => by
 simp only [List.mem_cons, pi0, List.not_mem_nil, or_false] at hm
 rcases hm with ⟨rfl, rfl⟩ | ⟨rfl, rfl⟩ | ⟨rfl, rfl⟩
 ·exact MB a hc.1 hc.2.1 hc.2.2
 ·exact Px a hc.1 hc.2.1 hc.2.2
 ·exact Sz a hc.1 hc.2)
end Go.Proofs.YtokjhbmmdmeafaaGreat
set_option linter.unusedSimpArgs false
set_option linter.unusedVariables false
namespace Go.Proofs.YtokjhbmmdmeafaaGreat
open Go.Ev Go.RowKit
open Tryz
end Go.Proofs.YtokjhbmmdmeafaaGreat
