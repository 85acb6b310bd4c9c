/- Pruned: Gc. -/
import Derived.Test.YtokjhbmmdmeafaaGreatQGb
import Derived.Test.YtokjhbmmdmeafaaGreatQGr
import Derived.Test.YtokjhbmmdmeafaaGreatQGa
import Derived.Test.YtokjhbmmdmeafaaGreatQHc
import Derived.WalkKit
import Derived.RegionTactic
import Derived.ChangeAlike
import Derived.Laws.BytesString
set_option linter.unusedSimpArgs false
set_option linter.unusedVariables false
namespace Go.Proofs.YtokjhbmmdmeafaaGreat
open Go.Ev Go.RowKit
open Tryz
def pc1 (p : Pt1) : List Ch := [.m (p).1, .m (p).2.1, .m (p).2.2]
def FT : Par Pt1 := (ww.pair (ww.pair ww))
def xC : Entry := sR
theorem tf : xC.OK prog := rC
theorem Ql (p : Pt1) (h : p.2.2 = 0) : Gives prog 92 [.t (.ag (pc1 p))] (.ag (pc1 (sO p))) := by
 unfold sO
 rw [if_pos h]
 exact pX (P := prog) (env := [xC, rA, sa, qE]) ⟨tf, qx, qT, qp, tt0⟩ func92 0 (oL [(5, wO 0)]) (by kernel_rfl) (ai h tt0)
theorem PZ (p : Pt1) (h : p.2.2 ≠ 0) : Gives prog 92 [.t (.ag (pc1 p))] (.ag (pc1 (sO p))) := by
 unfold sO
 rw [if_neg h]
 exact pX (P := prog) (env := [xC, rA, sa, qE]) ⟨tf, qx, qT, qp, tt0⟩ func92 0 (oL [(5, wO 1)]) (by kernel_rfl) (ai h tt0)
def uk : Entry := ql 92 FT.x (fun p => [(none, .ag (pc1 (sO p)))])
theorem sA : uk.OK prog := qb (fun args w => Go.Proofs.enters_of (P := prog) func92 (by kernel_rfl) rfl args w) (fun p => only (by
 by_cases h : p.2.2 = 0
 ·exact Ql p h
 ·exact PZ p h))
theorem ZZ (p q : Pt1) : Gives prog 91 [.t (.ag (pc1 p)), .t (.ag (pc1 q))] (.ag (pc1 (zJ p q))) := by
 unfold zJ
 by_cases h1 : p.2.2 = 0
 ·rw [if_pos h1]
  exact pX (P := prog) (env := [xC, uk, rA, sa, qE]) ⟨tf, sA, qx, qT, qp, tt0⟩ func91 0 (oL [(6, wO 0)]) (by kernel_rfl) (ai h1 tt0)
 ·rw [if_neg h1]
  by_cases h2 : q.2.2 = 0
  ·rw [if_pos h2]
   exact pX (P := prog) (env := [xC, uk, rA, sa, qE]) ⟨tf, sA, qx, qT, qp, tt0⟩ func91 0 (oL [(6, wO 1), (11, wO 0)]) (by kernel_rfl) (ai h2 (ai h1 tt0))
  ·rw [if_neg h2]
   by_cases h3 : hP1 p q = 0
   ·rw [if_pos h3]
    by_cases h4 : rP1 p q = 0
    ·rw [if_pos h4]
     exact pX (P := prog) (env := [xC, uk, rA, sa, qE]) ⟨tf, sA, qx, qT, qp, tt0⟩ func91 0 (oL [(6, wO 1), (11, wO 1), (79, wO 0), (82, wO 0)]) (by kernel_rfl) (ai h4 (ai h3 (ai h2 (ai h1 tt0))))
    ·rw [if_neg h4]
     refine Gives.same (r := .ag ([.m p.1, .m p.2.1, .c (.int .u64 0), .c (.int .u64 0), .c (.int .u64 0), .c (.int .u64 0), .c (.int .u64 0), .c (.int .u64 0)])) (pX (P := prog) (env := [xC, uk, rA, sa, qE]) ⟨tf, sA, qx, qT, qp, tt0⟩ func91 0 (oL [(6, wO 1), (11, wO 1), (79, wO 0), (82, wO 1)]) (by kernel_rfl) (ai h4 (ai h3 (ai h2 (ai h1 tt0))))) (rK rfl rfl ?_)
     show flat ([.m p.1, .m p.2.1] ++ [.m (0 : Fin Pp)]) = flat ([.m p.1, .m p.2.1] ++ [.c (.int .u64 0), .c (.int .u64 0), .c (.int .u64 0), .c (.int .u64 0), .c (.int .u64 0), .c (.int .u64 0)])
     rw [qm, qm, zC]
   ·rw [if_neg h3]
    exact pX (P := prog) (env := [xC, uk, rA, sa, qE]) ⟨tf, sA, qx, qT, qp, tt0⟩ func91 0 (oL [(6, wO 1), (11, wO 1), (79, wO 1)]) (by kernel_rfl) (ai h3 (ai h2 (ai h1 tt0)))
def zZ : Entry := sW 91 FT.x FT.x (fun p q => [(none, .ag (pc1 (zJ p q)))])
theorem wK : zZ.OK prog := q9 (fun args w => Go.Proofs.enters_of (P := prog) func91 (by kernel_rfl) rfl args w) (fun p q => only (ZZ p q))
def Dl (p : Pt1) : List Ch := [.m p.1, .m p.2.1, .c (.int .u64 0), .c (.int .u64 0), .c (.int .u64 0), .c (.int .u64 0), .c (.int .u64 0), .c (.int .u64 0), .m (qy p 1).1, .m (qy p 1).2.1, .m (qy p 1).2.2, .m (qy p 2).1, .m (qy p 2).2.1, .m (qy p 2).2.2, .m (qy p 3).1, .m (qy p 3).2.1, .m (qy p 3).2.2, .m (qy p 4).1, .m (qy p 4).2.1, .m (qy p 4).2.2, .m (qy p 5).1, .m (qy p 5).2.1, .m (qy p 5).2.2, .m (qy p 6).1, .m (qy p 6).2.1, .m (qy p 6).2.2, .m (qy p 7).1, .m (qy p 7).2.1, .m (qy p 7).2.2, .m (qy p 8).1, .m (qy p 8).2.1, .m (qy p 8).2.2, .m (qy p 9).1, .m (qy p 9).2.1, .m (qy p 9).2.2, .m (qy p 10).1, .m (qy p 10).2.1, .m (qy p 10).2.2, .m (qy p 11).1, .m (qy p 11).2.1, .m (qy p 11).2.2, .m (qy p 12).1, .m (qy p 12).2.1, .m (qy p 12).2.2, .m (qy p 13).1, .m (qy p 13).2.1, .m (qy p 13).2.2, .m (qy p 14).1, .m (qy p 14).2.1, .m (qy p 14).2.2, .m (qy p 15).1, .m (qy p 15).2.1, .m (qy p 15).2.2]
theorem Qr (p : Pt1) : (flat (pc1 p)).length = 18 := by rw [vH]; rfl
theorem IN (p : Pt1) : flat (Dl p) = (List.range 16).flatMap (fun j => flat (pc1 (qy p j))) := by
 have e0 : flat (pc1 (qy p 0)) = flat [.m p.1, .m p.2.1, .c (.int .u64 0), .c (.int .u64 0), .c (.int .u64 0), .c (.int .u64 0), .c (.int .u64 0), .c (.int .u64 0)] := by
  show flat ([.m p.1, .m p.2.1] ++ [.m (0 : Fin Pp)]) = flat ([.m p.1, .m p.2.1] ++ [.c (.int .u64 0), .c (.int .u64 0), .c (.int .u64 0), .c (.int .u64 0), .c (.int .u64 0), .c (.int .u64 0)])
  rw [qm, qm, zC]
 have e1 : Dl p = [.m p.1, .m p.2.1, .c (.int .u64 0), .c (.int .u64 0), .c (.int .u64 0), .c (.int .u64 0), .c (.int .u64 0), .c (.int .u64 0)] ++ (pc1 (qy p 1) ++ (pc1 (qy p 2) ++ (pc1 (qy p 3) ++ (pc1 (qy p 4) ++ (pc1 (qy p 5) ++ (pc1 (qy p 6) ++ (pc1 (qy p 7) ++ (pc1 (qy p 8) ++ (pc1 (qy p 9) ++ (pc1 (qy p 10) ++ (pc1 (qy p 11) ++ (pc1 (qy p 12) ++ (pc1 (qy p 13) ++ (pc1 (qy p 14) ++ pc1 (qy p 15))))))))))))))) := rfl
 rw [e1]
 simp only [qm, ← e0]
 simp [List.range_succ_eq_map, List.flatMap]
theorem HM (p : Pt1) (j : Nat) (h : j < 16) : ((flat (Dl p)).drop (0 + j * 18)).take 18 = flat (pc1 (qy p j)) := by
 rw [Nat.zero_add, IN]
 exact zX (fun j => flat (pc1 (qy p j))) 18 (fun j => Qr _) 16 j h
def vY (r : Array Tmp × Code × Code) (p : Pt1) (k : Nat) (b : Bool) (z : Int) (o : List Ch) : LState := { n := 32, sl := [(0, .yd 235), (1, .p 230 0), (3, .v (.bool b)), (4, vi0 z)], hp := [(0, .own (pc1 p) 119), (1, .own [.n 4 k] 28), (2, .own [.c (.int .u64 0), .c (.int .u64 0), .c (.int .u64 0), .c (.int .u64 0), .c (.int .u64 0), .c (.int .u64 0), .c (.int .u64 0), .c (.int .u64 0), .c (.int .u64 0), .c (.int .u64 0), .c (.int .u64 0), .c (.int .u64 0), .c (.int .u64 0), .c (.int .u64 0), .c (.int .u64 0), .c (.int .u64 0), .c (.int .u64 0), .c (.int .u64 0)] 119), (3, .own (Dl p) 170), (226, .own o 119), (230, .own [.n 4 k] 28), (234, .dfd),
 (235, .lp .ready none ⟨43, .any, trOf [(5, .p 3 0), (7, .p 226 0)]⟩ r.1 r.2.1 r.2.2 234)] }
def RQ (r : Array Tmp × Code × Code) (p : Pt1) (k : Nat) (o : List Ch) : LState := { n := 32, sl := [], hp := [(0, .own (pc1 p) 119), (1, .own [.n 4 k] 28), (2, .own [.c (.int .u64 0), .c (.int .u64 0), .c (.int .u64 0), .c (.int .u64 0), .c (.int .u64 0), .c (.int .u64 0), .c (.int .u64 0), .c (.int .u64 0), .c (.int .u64 0), .c (.int .u64 0), .c (.int .u64 0), .c (.int .u64 0), .c (.int .u64 0), .c (.int .u64 0), .c (.int .u64 0), .c (.int .u64 0), .c (.int .u64 0), .c (.int .u64 0)] 119), (3, .own (Dl p) 170), (226, .own o 119), (230, .own [.n 4 k] 28), (234, .dfd),
 (235, .lp .ready none ⟨43, .any, trOf [(5, .p 3 0), (7, .p 226 0)]⟩ r.1 r.2.1 r.2.2 234)] }
theorem Zk (p q : Pt1) (k i : Nat) (hi : i < 64)  : Sound prog 236 false (qc f117 0) (vY (qf f54 0) p k true ((((i + 1 : Nat) : Int)) - 1) (pc1 q)).aa .normal (vY (qf f54 0) p k true (((i : Nat) : Int) - 1) (pc1 (zJ (sO (sO (sO (sO q)))) (qy p (dig k i))))).aa := by
 have hs := p9 (P := prog) (X := qO _) (env := [uk, zZ]) ⟨sA, wK, tt0⟩ (n := 2) (os := oL [(239, wO 1), (242, rO 2 (i / 16)), (243, rO 3 0), (247, rO 4 (4 * (i % 16))), (249, { ch := 1, hi := fun _ => dig k i }), (291, rO 2 (dig k i)), (292, { ch := 0, hi := fun _ => 0, ru := 8, cs := fun _ => pc1 (qy p (dig k i)) })]) (fb := 236) (rd := false) (c := qc f117 0) (k := 238) (I := vY (qf f54 0) p k true ((((i + 1 : Nat) : Int)) - 1) (pc1 q)) (sk := [0, 1, 3, 4]) (hk := [0, 1, 2, 3, 226, 230, 234, 235]) (lk := [(235, [5, 7])]) (ex := .normal)
  (L := vY (qf f54 0) p k true (IntKind.i64.wrap ((((i + 1 : Nat) : Int) - 1) - 1)) (pc1 (zJ (sO (sO (sO (sO q)))) (qy p (dig k i))))) (by kernel_rfl) (ai (show qq (pc1 (qy p (dig k i))) = 18 /\ ((flat (Dl p)).drop (0 + dig k i * 18)).take 18 = flat (pc1 (qy p (dig k i))) from ⟨rfl, HM p _ (wY k i)⟩) (ai (show ((dig k i : Nat) : Int) = ((dig k i : Nat) : Int) /\ dig k i < 16 from ⟨rfl, wY k i⟩) (ai (Av k i) (ai (AN i) (ai (show 0 + i / 16 * 1 < 4 from by omega) (ai (AU i hi) (ai (show decide (((((i + 1 : Nat) : Int)) - 1) >= 0) = true from decide_eq_true (by omega)) tt0)))))))
 rw [show IntKind.i64.wrap ((((i + 1 : Nat) : Int) - 1) - 1) = ((i : Nat) : Int) - 1 by rw [qj]; omega] at hs
 exact hs
theorem YX (p q : Pt1) (k i : Nat) (hi : i < 64) (hd : ((dig k i : Nat) : Int) > 0) : Sound prog 236 false (qc f117 0) (vY (qf f54 0) p k false ((((i + 1 : Nat) : Int)) - 1) (pc1 q)).aa .normal (vY (qf f54 0) p k true (((i : Nat) : Int) - 1) (pc1 (zJ (sO (sO (sO (sO q)))) (qy p (dig k i))))).aa := by
 have hs := p9 (P := prog) (X := qO _) (env := [uk, zZ]) ⟨sA, wK, tt0⟩ (n := 2) (os := oL [(239, wO 1), (242, rO 2 (i / 16)), (243, rO 3 0), (247, rO 4 (4 * (i % 16))), (249, { ch := 1, hi := fun _ => dig k i }), (254, wO 1), (291, rO 2 (dig k i)), (292, { ch := 0, hi := fun _ => 0, ru := 8, cs := fun _ => pc1 (qy p (dig k i)) })]) (fb := 236) (rd := false) (c := qc f117 0) (k := 238) (I := vY (qf f54 0) p k false ((((i + 1 : Nat) : Int)) - 1) (pc1 q)) (sk := [0, 1, 3, 4]) (hk := [0, 1, 2, 3, 226, 230, 234, 235]) (lk := [(235, [5, 7])]) (ex := .normal)
  (L := vY (qf f54 0) p k true (IntKind.i64.wrap ((((i + 1 : Nat) : Int) - 1) - 1)) (pc1 (zJ (sO (sO (sO (sO q)))) (qy p (dig k i))))) (by kernel_rfl) (ai (show qq (pc1 (qy p (dig k i))) = 18 /\ ((flat (Dl p)).drop (0 + dig k i * 18)).take 18 = flat (pc1 (qy p (dig k i))) from ⟨rfl, HM p _ (wY k i)⟩) (ai (show ((dig k i : Nat) : Int) = ((dig k i : Nat) : Int) /\ dig k i < 16 from ⟨rfl, wY k i⟩) (ai (show decide (((dig k i : Nat) : Int) > 0) = true from decide_eq_true hd) (ai (Av k i) (ai (AN i) (ai (show 0 + i / 16 * 1 < 4 from by omega) (ai (AU i hi) (ai (show decide (((((i + 1 : Nat) : Int)) - 1) >= 0) = true from decide_eq_true (by omega)) tt0))))))))
 rw [show IntKind.i64.wrap ((((i + 1 : Nat) : Int) - 1) - 1) = ((i : Nat) : Int) - 1 by rw [qj]; omega] at hs
 exact hs
theorem ZF (p q : Pt1) (k i : Nat) (hi : i < 64) (hd : ¬ ((dig k i : Nat) : Int) > 0) : Sound prog 236 false (qc f117 0) (vY (qf f54 0) p k false ((((i + 1 : Nat) : Int)) - 1) (pc1 q)).aa .normal (vY (qf f54 0) p k false (((i : Nat) : Int) - 1) (pc1 q)).aa := by
 have hs := p9 (P := prog) (X := qO _) (env := [uk, zZ]) ⟨sA, wK, tt0⟩ (n := 2) (os := oL [(239, wO 1), (242, rO 2 (i / 16)), (243, rO 3 0), (247, rO 4 (4 * (i % 16))), (249, { ch := 1, hi := fun _ => dig k i }), (254, wO 2)]) (fb := 236) (rd := false) (c := qc f117 0) (k := 238) (I := vY (qf f54 0) p k false ((((i + 1 : Nat) : Int)) - 1) (pc1 q)) (sk := [0, 1, 3, 4]) (hk := [0, 1, 2, 3, 226, 230, 234, 235]) (lk := [(235, [5, 7])]) (ex := .normal)
  (L := vY (qf f54 0) p k false (IntKind.i64.wrap ((((i + 1 : Nat) : Int) - 1) - 1)) (pc1 q)) (by kernel_rfl) (ai (show decide (((dig k i : Nat) : Int) > 0) = false from decide_eq_false hd) (ai (Av k i) (ai (AN i) (ai (show 0 + i / 16 * 1 < 4 from by omega) (ai (AU i hi) (ai (show decide (((((i + 1 : Nat) : Int)) - 1) >= 0) = true from decide_eq_true (by omega)) tt0))))))
 rw [show IntKind.i64.wrap ((((i + 1 : Nat) : Int) - 1) - 1) = ((i : Nat) : Int) - 1 by rw [qj]; omega] at hs
 exact hs
def Oo := PLift.up (ai (show decide ((((0 : Nat) : Int) - 1) >= 0) = false from by decide) tt0)
theorem UF (p q : Pt1) (k : Nat) (b : Bool) : Sound prog 236 false (qc f117 0) (vY (qf f54 0) p k b (((0 : Nat) : Int) - 1) (pc1 q)).aa (.exit 0) (RQ (qf f54 0) p k (pc1 q)).aa :=
 p9 (P := prog) (X := qO _) (env := []) trivial (n := 2) (os := oL [(239, wO 2)]) (fb := 236) (rd := false) (c := qc f117 0) (k := 238) (I := vY (qf f54 0) p k b (((0 : Nat) : Int) - 1) (pc1 q)) (sk := []) (hk := [0, 1, 2, 3, 226, 230, 234, 235]) (lk := [(235, [5, 7])]) (ex := .exit 0)
  (L := RQ (qf f54 0) p k (pc1 q)) (by kernel_rfl) Oo.down
theorem QM (p : Pt1) (k : Nat) (hk : k < 115792089237316195423570985008687907853269984665640564039457584007913129639936) (y : { i : Nat // i <= 64 }) : Sound prog 236 false (.loop (qc f117 0)) (vY (qf f54 0) p k (bgn k (64 - y.val)) (((y.val : Nat) : Int) - 1) (pc1 (xk p k (64 - y.val)))).aa (.exit 0) (RQ (qf f54 0) p k (pc1 (xk p k 64))).aa := by
 refine qw (m := fun y : { i : Nat // i <= 64 } => y.val) (fun y => vY (qf f54 0) p k (bgn k (64 - y.val)) (((y.val : Nat) : Int) - 1) (pc1 (xk p k (64 - y.val)))) (by simp) (fun y => ?_) y
 obtain ⟨i, hi⟩ := y
 cases i with
 | zero => exact .inr (UF p _ k _)
 | succ i =>
  refine .inl ⟨⟨i, by omega⟩, Nat.lt_succ_self i, ?_⟩
  have e1 : 64 - i = (64 - (i + 1)) + 1 := by omega
  have e2 : 63 - (64 - (i + 1)) = i := by omega
  have hb := CP k (64 - (i + 1)) (by omega)
  rw [e2, ← e1] at hb
  have hm : xk p k (64 - i) = zJ (sO (sO (sO (sO (xk p k (64 - (i + 1))))))) (qy p (dig k i)) := by
   rw [e1]
   show zJ _ (qy p (dig k (63 - (64 - (i + 1))))) = _
   rw [e2]
  simp only
  rw [hm]
  cases hc : bgn k (64 - (i + 1)) with
  | true =>
   rw [hc] at hb
   simp only [Bool.true_or] at hb
   rw [hb]
   exact Zk p _ k i (by omega)
  | false =>
   rw [hc] at hb
   simp only [Bool.false_or] at hb
   by_cases hd : ((dig k i : Nat) : Int) > 0
   ·rw [hb, decide_eq_true (by omega)]
    exact YX p _ k i (by omega) hd
   ·have h0 : dig k i = 0 := by omega
    rw [hb, decide_eq_false (by omega)]
    have hn := EF p k (64 - (i + 1)) (FH hk _ (by omega) hc)
    rw [hn, h0, uz _ rfl, uz _ rfl, uz _ rfl, uz _ rfl, Hp _ _ rfl]
    exact ZF p _ k i (by omega) hd
theorem Ue (p : Pt1) (k : Nat) (hk : k < 115792089237316195423570985008687907853269984665640564039457584007913129639936) : Sound prog 236 false (.loop (qc f117 0)) (vY (qf f54 0) p k false 63 [.m p.1, .m p.2.1, .c (.int .u64 0), .c (.int .u64 0), .c (.int .u64 0), .c (.int .u64 0), .c (.int .u64 0), .c (.int .u64 0)]).aa (.exit 0) (RQ (qf f54 0) p k (pc1 (xk p k 64))).aa := by
 have hl := QM p k hk ⟨64, Nat.le_refl _⟩
 simp only [Nat.sub_self, GS hk] at hl
 refine Sound.pre (J := vY (qf f54 0) p k false (((64 : Nat) : Int) - 1) (pc1 (xk p k 0))) hl [] (by kernel_rfl) ?_
 have e0 : flat [.m p.1, .m p.2.1, .c (.int .u64 0), .c (.int .u64 0), .c (.int .u64 0), .c (.int .u64 0), .c (.int .u64 0), .c (.int .u64 0)] = flat (pc1 (xk p k 0)) := by
  symm
  show flat ([.m p.1, .m p.2.1] ++ [.m (0 : Fin Pp)]) = flat ([.m p.1, .m p.2.1] ++ [.c (.int .u64 0), .c (.int .u64 0), .c (.int .u64 0), .c (.int .u64 0), .c (.int .u64 0), .c (.int .u64 0)])
  rw [qm, qm, zC]
 exact ⟨⟨rfl, rr0, rfl, rfl, tt0⟩, ⟨rr0, rr0, rr0, rr0, ⟨rfl, e0⟩, rr0, tt0, ⟨⟨rfl, rfl, rfl, rfl, rfl, rfl, rfl⟩, vQ (by kernel_rfl)⟩, tt0⟩⟩
abbrev JO (p : Pt1) : List Ch := [.m p.1, .m p.2.1, .c (.int .u64 0), .c (.int .u64 0), .c (.int .u64 0), .c (.int .u64 0), .c (.int .u64 0), .c (.int .u64 0)]
abbrev Sv (k : Nat) : Prop := k < 115792089237316195423570985008687907853269984665640564039457584007913129639936
theorem aas (p : Pt1) (k : Nat) (hk : Sv k) : Gives prog 54 [.t (.ag (pc1 p)), .t (.ag [.n 4 k])] (.ag (pc1 (xk p k 64))) :=
 p6 (P := prog) (X := qO _) (env := [uk, zZ]) ⟨sA, wK, tt0⟩ func54 2 (oL [(238, lpO { I := vY (qf f54 0) p k false 63 (JO p), ex := .exit 0, E := RQ (qf f54 0) p k (pc1 (xk p k 64)), fr := 239, lk := [(235, [5, 7])] })]) (by kernel_rfl) ⟨_, rfl⟩ (ai (show some (vY (qf f54 0) p k false 63 (JO p)) = some (vY (qf f54 0) p k false 63 (JO p)) from rfl) (ai (Ue p k hk) tt0))
def E6 : Entry := sW 54 FT.x yX.x (fun p k => [(some (k < 115792089237316195423570985008687907853269984665640564039457584007913129639936), .ag (pc1 (xk p k 64)))])
theorem An : E6.OK prog := q9 (fun args w => Go.Proofs.enters_of (P := prog) func54 (by kernel_rfl) rfl args w) (fun p k => sd (fun h => aas p k h))
end Go.Proofs.YtokjhbmmdmeafaaGreat
set_option linter.unusedSimpArgs false
set_option linter.unusedVariables false
namespace Go.Proofs.YtokjhbmmdmeafaaGreat
open Go.Ev Go.RowKit
open Tryz
theorem S8 (x y : Nat) (hx : small x) (hy : small y) (h : ¬ flat [.q (ofP x)] = flat [.n 6 x]) : Gives prog 90 [.t (.ag [.n 6 x, .n 6 y, .c (.bool false)])] (.v (.bool false)) :=
 pX (P := prog) (env := [Co, vc, qE, rA, tO]) ⟨uP, sc, qp, qx, qK, tt0⟩ func90 1 (oL [(18, wO 1)]) (by kernel_rfl) (ai (show ¬ flat [.q (ofP x)] = flat [.n 6 x] from h) (ai (show smP y from hy) (ai (show smP x from hx) tt0)))
def J0 {x : Nat} (y : Nat) (hx : small x) (hy : small y) (h : flat [.q (ofP x)] = flat [.n 6 x]) := PLift.up (ai (show flat [.q (ofP x)] = flat [.n 6 x] from h) (ai (show smP y from hy) (ai (show smP x from hx) tt0)))
theorem SQ (x y : Nat) (hx : small x) (hy : small y) (h : flat [.q (ofP x)] = flat [.n 6 x]) (h2 : ¬ flat [.q (ofP y)] = flat [.n 6 y]) : Gives prog 90 [.t (.ag [.n 6 x, .n 6 y, .c (.bool false)])] (.v (.bool false)) :=
 pX (P := prog) (env := [Co, vc, qE, rA, tO]) ⟨uP, sc, qp, qx, qK, tt0⟩ func90 1 (oL [(18, wO 0), (24, wO 1)]) (by kernel_rfl) (ai (show ¬ flat [.q (ofP y)] = flat [.n 6 y] from h2)
   (J0 y hx hy h).down)
abbrev Fb (x : Nat) : List Ch := [.m (ofP x * ofP x * ofP x + ofP (4 % 18446744073709551616))]
theorem Tz (x y : Nat) (hx : small x) (hy : small y) (h : flat [.q (ofP x)] = flat [.n 6 x]) (h2 : flat [.q (ofP y)] = flat [.n 6 y]) (h3 : ¬ flat [.m (ofP y * ofP y)] = flat (Fb x)) : Gives prog 90 [.t (.ag [.n 6 x, .n 6 y, .c (.bool false)])] (.v (.bool false)) :=
 pX (P := prog) (env := [Co, vc, qE, rA, tO]) ⟨uP, sc, qp, qx, qK, tt0⟩ func90 1 (oL [(18, wO 0), (24, wO 0), (37, wO 1)]) (by kernel_rfl) (ai (show ¬ flat [.m (ofP y * ofP y)] = flat (Fb x) from h3) (ai (show flat [.q (ofP y)] = flat [.n 6 y] from h2)
   (J0 y hx hy h).down))
theorem Xe (x y : Nat) (hx : small x) (hy : small y) (h : flat [.q (ofP x)] = flat [.n 6 x]) (h2 : flat [.q (ofP y)] = flat [.n 6 y]) (h3 : flat [.m (ofP y * ofP y)] = flat (Fb x)) : Gives prog 90 [.t (.ag [.n 6 x, .n 6 y, .c (.bool false)])] (.v (.bool true)) :=
 pX (P := prog) (env := [Co, vc, qE, rA, tO]) ⟨uP, sc, qp, qx, qK, tt0⟩ func90 1 (oL [(18, wO 0), (24, wO 0), (37, wO 0)]) (by kernel_rfl) (ai (show flat [.m (ofP y * ofP y)] = flat (Fb x) from h3) (ai (show flat [.q (ofP y)] = flat [.n 6 y] from h2)
   (J0 y hx hy h).down))
abbrev Kx : List Ch := [.c (.int .u64 0), .c (.int .u64 0), .c (.int .u64 0), .c (.int .u64 0), .c (.int .u64 0), .c (.int .u64 0), .c (.int .u64 0), .c (.int .u64 0), .c (.int .u64 0), .c (.int .u64 0), .c (.int .u64 0), .c (.int .u64 0), .c (.bool true)]
theorem ST (x y : Nat) (h : flat [.n 6 x, .n 6 y, .c (.bool true)] = flat Kx) : Gives prog 90 [.t (.ag [.n 6 x, .n 6 y, .c (.bool true)])] (.v (.bool true)) :=
 pX (P := prog) (env := [Co, vc, qE, rA, tO]) ⟨uP, sc, qp, qx, qK, tt0⟩ func90 1 (oL [(6, wO 0)]) (by kernel_rfl) (ai (show flat [.n 6 x, .n 6 y, .c (.bool true)] = flat Kx from h) tt0)
theorem UM (x y : Nat) (h : ¬ flat [.n 6 x, .n 6 y, .c (.bool true)] = flat Kx) : Gives prog 90 [.t (.ag [.n 6 x, .n 6 y, .c (.bool true)])] (.v (.bool false)) :=
 pX (P := prog) (env := [Co, vc, qE, rA, tO]) ⟨uP, sc, qp, qx, qK, tt0⟩ func90 1 (oL [(6, wO 1)]) (by kernel_rfl) (ai (show ¬ flat [.n 6 x, .n 6 y, .c (.bool true)] = flat Kx from h) tt0)
theorem Cn (x y : Nat) : flat [.m (ofP y * ofP y)] = flat [.m (ofP x * ofP x * ofP x + ofP (4 % 18446744073709551616))] ↔ ofP y * ofP y = sV (ofP x) := by
 rw [show (4 % 18446744073709551616 : Nat) = 4 from rfl]
 unfold sV
 exact ⟨fun e => wC e, fun e => by rw [e]⟩
theorem S2 (a : A1) (hs : sml1 a) (h : may1 a) : Gives prog 90 [.t (.ag [.n 6 a.1, .n 6 a.2.1, .c (.bool a.2.2)])] (.v (.bool true)) := by
 obtain ⟨x, y, b⟩ := a
 obtain ⟨hx, hy⟩ := hs
 cases b with
 | true => exact ST x y ((DX hx hy true).2 (by simpa only [may1, if_true] using h))
 | false =>
  have h : is1 x /\ is1 y /\ ofP y * ofP y = sV (ofP x) := h
  exact Xe x y hx hy ((va hx).2 h.1) ((va hy).2 h.2.1) ((Cn x y).2 h.2.2)
theorem Tv (a : A1) (hs : sml1 a) (h : ¬ may1 a) : Gives prog 90 [.t (.ag [.n 6 a.1, .n 6 a.2.1, .c (.bool a.2.2)])] (.v (.bool false)) := by
 obtain ⟨x, y, b⟩ := a
 obtain ⟨hx, hy⟩ := hs
 cases b with
 | true => exact UM x y (fun e => h (by simpa only [may1, if_true] using (DX hx hy true).1 e))
 | false =>
  have h : ¬ (is1 x /\ is1 y /\ ofP y * ofP y = sV (ofP x)) := h
  by_cases h1 : is1 x
  ·by_cases h2 : is1 y
   ·exact Tz x y hx hy ((va hx).2 h1) ((va hy).2 h2) (fun e => h ⟨h1, h2, (Cn x y).1 e⟩)
   ·exact SQ x y hx hy ((va hx).2 h1) (fun e => h2 ((va hy).1 e))
  ·exact S8 x y hx hy (fun e => h1 ((va hx).1 e))
def Ku (a : A1) : uF := [(some (sml1 a /\ may1 a), .v (.bool true)), (some (sml1 a /\ ¬ may1 a), .v (.bool false))]
theorem H8 {f : FuncId} {args : A1 -> List XV} (h1 : ∀ a, sml1 a -> may1 a -> Gives prog f (args a) (.v (.bool true))) (h2 : ∀ a, sml1 a -> ¬ may1 a -> Gives prog f (args a) (.v (.bool false))) : ∀ a c r, (c, r) ∈ Ku a -> c.getD True -> Gives prog f (args a) r := by
 intro a c r hm hc
 simp only [Ku, List.mem_cons, pi0, List.not_mem_nil, or_false] at hm
 rcases hm with ⟨rfl, rfl⟩ | ⟨rfl, rfl⟩
 ·exact h1 a hc.1 hc.2
 ·exact h2 a hc.1 hc.2
def W5 : Entry := ql 90 IA.x Ku
theorem Lg : W5.OK prog := qb (fun args w => Go.Proofs.enters_of (P := prog) func90 (by kernel_rfl) rfl args w) (H8 S2 Tv)
def FP (a : A1) (hs : sml1 a) (h : may1 a) := PLift.up (ai (show sml1 a /\ may1 a from ⟨hs, h⟩) tt0)
theorem RO (a : A1) (hs : sml1 a) (h : may1 a) : Gives prog 52 [.t (.ag [.n 6 a.1, .n 6 a.2.1, .c (.bool a.2.2)])] (.v (.bool true)) :=
 pX (P := prog) (env := [W5]) ⟨Lg, tt0⟩ func52 0 (oL [(3, wO 0)]) (by kernel_rfl) (FP a hs h).down
theorem Qx (a : A1) (hs : sml1 a) (h : ¬ may1 a) : Gives prog 52 [.t (.ag [.n 6 a.1, .n 6 a.2.1, .c (.bool a.2.2)])] (.v (.bool false)) :=
 pX (P := prog) (env := [W5]) ⟨Lg, tt0⟩ func52 0 (oL [(3, wO 1)]) (by kernel_rfl) (ai (show sml1 a /\ ¬ may1 a from ⟨hs, h⟩) tt0)
def Bx : Entry := ql 52 IA.x Ku
theorem xF : Bx.OK prog := qb (fun args w => Go.Proofs.enters_of (P := prog) func52 (by kernel_rfl) rfl args w) (H8 RO Qx)
theorem SX (x y : Nat) : Gives prog 53 [.t (.ag [.n 6 x, .n 6 y, .c (.bool true)])] (.ag [.m (ofP (1 % 18446744073709551616)), .m (ofP (1 % 18446744073709551616)), .c (.int .u64 0), .c (.int .u64 0), .c (.int .u64 0), .c (.int .u64 0), .c (.int .u64 0), .c (.int .u64 0)]) :=
 pX (P := prog) (env := [Co, tO]) ⟨uP, qK, tt0⟩ func53 0 (oL []) (by kernel_rfl) trivial
theorem S0 (x y : Nat) (hx : small x) (hy : small y) : Gives prog 53 [.t (.ag [.n 6 x, .n 6 y, .c (.bool false)])] (.ag [.m (ofP x), .m (ofP y), .m (ofP (1 % 18446744073709551616))]) :=
 pX (P := prog) (env := [Co, tO]) ⟨uP, qK, tt0⟩ func53 0 (oL []) (by kernel_rfl) (ai (show smP y from hy) (ai (show smP x from hx) tt0))
theorem QT (x y : Nat) : in1 (x, y, false) = (ofP x, ofP y, 1) := by unfold in1; exact if_neg (by simp)
theorem RG (x y : Nat) : in1 (x, y, true) = (1, 1, 0) := by unfold in1; exact if_pos rfl
theorem NQ (x y : Fin Pp) : flat [.m x, .m y, .m (ofP (1 % 18446744073709551616))] = flat (pc1 (x, y, 1)) := rfl
theorem NG : flat [.m (ofP (1 % 18446744073709551616)), .m (ofP (1 % 18446744073709551616)), .c (.int .u64 0), .c (.int .u64 0), .c (.int .u64 0), .c (.int .u64 0), .c (.int .u64 0), .c (.int .u64 0)] = flat (pc1 (1, 1, 0)) := by kernel_rfl
theorem adK (a : A1) (hs : sml1 a) : Gives prog 53 [.t (.ag [.n 6 a.1, .n 6 a.2.1, .c (.bool a.2.2)])] (.ag (pc1 (in1 a))) := by
 obtain ⟨x, y, b⟩ := a
 obtain ⟨hx, hy⟩ := hs
 cases b with
 | true => rw [RG x y]; exact Gives.same (SX x y) (rK rfl rfl NG).symm
 | false => rw [QT x y]; exact Gives.same (S0 x y hx hy) (rK rfl rfl (NQ _ _)).symm
def LM : Entry := ql 53 IA.x (fun a => [(some (sml1 a), .ag (pc1 (in1 a)))])
theorem Da : LM.OK prog := qb (fun args w => Go.Proofs.enters_of (P := prog) func53 (by kernel_rfl) rfl args w) (fun a => sd (fun h => adK a h))
def TH : Entry := y8 50 [(none, .ag [.c (.int .u64 18446744069414584321), .c (.int .u64 6034159408538082302), .c (.int .u64 3691218898639771653), .c (.int .u64 8353516859464449352)])]
theorem Gq : TH.OK prog := wh (fun args w => Go.Proofs.enters_of (P := prog) func50 (by kernel_rfl) rfl args w)
 (only (pX (P := prog) (env := []) trivial func50 0 o0 (by kernel_rfl) tt0))
theorem Ly : Rr < 115792089237316195423570985008687907853269984665640564039457584007913129639936 := by decide
theorem SB (a : A1) (hs : sml1 a) (h : may1 a) (g : rp a) : Gives prog 22 [.t (.ag [.n 6 a.1, .n 6 a.2.1, .c (.bool a.2.2)])] (.v (.bool true)) :=
 pX (P := prog) (env := [Bx, LM, TH, E6, xC]) ⟨xF, Da, Gq, An, tf, tt0⟩ func22 0 (oL [(3, wO 0), (10, wO 0)]) (by kernel_rfl) (ai (show (xk (in1 a) Rr 64).2.2 = 0 from g) (ai Ly (ai (show sml1 a from hs)
   (FP a hs h).down)))
theorem Pt (a : A1) (hs : sml1 a) (h : may1 a) (g : ¬ rp a) : Gives prog 22 [.t (.ag [.n 6 a.1, .n 6 a.2.1, .c (.bool a.2.2)])] (.v (.bool false)) :=
 pX (P := prog) (env := [Bx, LM, TH, E6, xC]) ⟨xF, Da, Gq, An, tf, tt0⟩ func22 0 (oL [(3, wO 0), (10, wO 1)]) (by kernel_rfl) (ai (show ¬ (xk (in1 a) Rr 64).2.2 = 0 from g) (ai Ly (ai (show sml1 a from hs)
   (FP a hs h).down)))
theorem UO (a : A1) (hs : sml1 a) (h : ¬ may1 a) : Gives prog 22 [.t (.ag [.n 6 a.1, .n 6 a.2.1, .c (.bool a.2.2)])] (.v (.bool false)) :=
 pX (P := prog) (env := [Bx, LM, TH, E6, xC]) ⟨xF, Da, Gq, An, tf, tt0⟩ func22 0 (oL [(3, wO 1)]) (by kernel_rfl) (ai (show sml1 a /\ ¬ may1 a from ⟨hs, h⟩) tt0)
def Ia : Entry := ql 22 IA.x (fun a => [(some (sml1 a /\ may1 a /\ rp a), .v (.bool true)), (some (sml1 a /\ may1 a /\ ¬ rp a), .v (.bool false)), (some (sml1 a /\ ¬ may1 a), .v (.bool false))])
theorem Ix : Ia.OK prog := qb (fun args w => Go.Proofs.enters_of (P := prog) func22 (by kernel_rfl) rfl args w) (fun a c r hm hc => by
 simp only [List.mem_cons, pi0, List.not_mem_nil, or_false] at hm
 rcases hm with ⟨rfl, rfl⟩ | ⟨rfl, rfl⟩ | ⟨rfl, rfl⟩
 ·exact SB a hc.1 hc.2.1 hc.2.2
 ·exact Pt a hc.1 hc.2.1 hc.2.2
 ·exact UO a hc.1 hc.2)
end Go.Proofs.YtokjhbmmdmeafaaGreat
set_option linter.unusedSimpArgs false
set_option linter.unusedVariables false
namespace Go.Proofs.YtokjhbmmdmeafaaGreat
open Go.Ev Go.RowKit
open Tryz
theorem abN (x : Nat) : Gives prog 84 [.rd [.n 6 x] 6 6] (.v (.string (ofL (beL 48 x)))) := by
 have h : beL 48 x = (List.range 48).map (fun k => UInt8.ofNat (IntKind.u8.wrap ((x / 18446744073709551616 ^ (6 - 1 - k / 8) % 18446744073709551616 / 2 ^ min (56 - 8 * (k % 8)) 64 % 18446744073709551616 : Nat) : Int)).toNat) := by
  rw [yK]
  refine List.map_congr_left fun k hk => ?_
  rw [List.mem_range] at hk
  rw [HH x _ _ (by omega), ← Bk]
  congr 4
  omega
 rw [h]
 exact p6 (P := prog) (X := qO _) (env := []) trivial func84 4 o0 (by kernel_rfl) ⟨_, rfl⟩ trivial
def Jy : Entry := ql 84 (XPar.rd 6 vF (fun _ => rfl)) (fun a => [(none, .v (.string (ofL (beL 48 a))))])
theorem Eh : Jy.OK prog := qb (fun args w => Go.Proofs.enters_of (P := prog) func84 (by kernel_rfl) rfl args w) (fun a => only (abN a))
def E3 : Entry := ql 110 Vz (fun a => [(some (DG a), .v (.string (ofL (beL 48 (abq a).val))))])
theorem Ec : E3.OK prog := qb (fun args w => Go.Proofs.enters_of (P := prog) func110 (by kernel_rfl) rfl args w) (fun a => match a with
 | .inl a => sd (fun h => pX (P := prog) (env := [xp, Jy]) ⟨vR, Eh, tt0⟩ func110 0 o0 (by kernel_rfl) (ai h tt0))
 | .inr a => sd (fun h => pX (P := prog) (env := [xp, Jy]) ⟨vR, Eh, tt0⟩ func110 0 o0 (by kernel_rfl) (ai h tt0)))
def Ik (l : LU0) : Nat := pre l 5 8 % 18446744073709551616 + 18446744073709551616 * (pre l 4 8 % 18446744073709551616 + 18446744073709551616 * (pre l 3 8 % 18446744073709551616 + 18446744073709551616 * (pre l 2 8 % 18446744073709551616 + 18446744073709551616 * (pre l 1 8 % 18446744073709551616 + 18446744073709551616 * (pre l 0 8 % 18446744073709551616 + 18446744073709551616 * (0))))))
theorem B7 (l : LU0) : Ik l = deN 48 l := by
 have e : deN 48 l = pre l 0 (8 * (0 + 6)) := rfl
 have l0 : pre l 0 8 < 18446744073709551616 := ud l 0 8
 have l1 : pre l 1 8 < 18446744073709551616 := ud l 1 8
 have l2 : pre l 2 8 < 18446744073709551616 := ud l 2 8
 have l3 : pre l 3 8 < 18446744073709551616 := ud l 3 8
 have l4 : pre l 4 8 < 18446744073709551616 := ud l 4 8
 have l5 : pre l 5 8 < 18446744073709551616 := ud l 5 8
 rw [e, show 8 * (0 + 6) = 8 * (5 + 1) from rfl, sI, show 8 * 5 = 8 * (4 + 1) from rfl, sI, show 8 * 4 = 8 * (3 + 1) from rfl, sI, show 8 * 3 = 8 * (2 + 1) from rfl, sI, show 8 * 2 = 8 * (1 + 1) from rfl, sI, show 8 * 1 = 8 * (0 + 1) from rfl, sI]
 unfold Ik
 rw [Nat.mod_eq_of_lt l0]
 rw [Nat.mod_eq_of_lt l1]
 rw [Nat.mod_eq_of_lt l2]
 rw [Nat.mod_eq_of_lt l3]
 rw [Nat.mod_eq_of_lt l4]
 rw [Nat.mod_eq_of_lt l5]
 simp only [pre, Nat.mul_zero, Nat.zero_mul, Nat.zero_add]
 omega
theorem Uk (l : LU0) (h : deN 48 l < 4002409555221667393417789825735904156556882819939007885332058136124031650490837864442687629129015664037894272559787) : (AV.tp [.ag [.n 1 (pre l 5 8), .n 1 (pre l 4 8), .n 1 (pre l 3 8), .n 1 (pre l 2 8), .n 1 (pre l 1 8), .n 1 (pre l 0 8)], vi0 0]).val? = (AV.tp [.ag [.q (ofP (deN 48 l))], vi0 0]).val? := by
 have e1 := rF 6 [.n 1 (pre l 5 8), .n 1 (pre l 4 8), .n 1 (pre l 3 8), .n 1 (pre l 2 8), .n 1 (pre l 1 8), .n 1 (pre l 0 8)] (Ik l) [] rfl
 rw [B7] at e1
 have e2 : flat [Ch.q (ofP (deN 48 l))] = limbs 6 (deN 48 l) := by simp only [flat, Ch.cells, List.append_nil]; rw [show (ofP (deN 48 l)).val = deN 48 l from Nat.mod_eq_of_lt h]
 have e3 : flat [.n 1 (pre l 5 8), .n 1 (pre l 4 8), .n 1 (pre l 3 8), .n 1 (pre l 2 8), .n 1 (pre l 1 8), .n 1 (pre l 0 8)] = flat [Ch.q (ofP (deN 48 l))] := by rw [e1, e2]; simp [flat]
 have e4 := rK (a := [.n 1 (pre l 5 8), .n 1 (pre l 4 8), .n 1 (pre l 3 8), .n 1 (pre l 2 8), .n 1 (pre l 1 8), .n 1 (pre l 0 8)]) (b := [Ch.q (ofP (deN 48 l))]) rfl rfl e3
 simp only [AV.val?, AV.vals?] at e4 ⊢
 rw [e4]
def YZ (B : Nat -> Nat) : List Ora := [rO 1 (B 0), rO 1 (B 1), rO 1 (B 2), rO 1 (B 3), rO 1 (B 4), rO 1 (B 5), rO 1 (B 6), rO 1 (B 7), rO 1 (B 8), rO 1 (B 9), rO 1 (B 10), rO 1 (B 11), rO 1 (B 12), rO 1 (B 13), rO 1 (B 14), rO 1 (B 15), rO 1 (B 16), rO 1 (B 17), rO 1 (B 18), rO 1 (B 19), rO 1 (B 20), rO 1 (B 21), rO 1 (B 22), rO 1 (B 23), rO 1 (B 24), rO 1 (B 25), rO 1 (B 26), rO 1 (B 27), rO 1 (B 28), rO 1 (B 29), rO 1 (B 30), rO 1 (B 31), rO 1 (B 32), rO 1 (B 33), rO 1 (B 34), rO 1 (B 35), rO 1 (B 36), rO 1 (B 37), rO 1 (B 38), rO 1 (B 39), rO 1 (B 40), rO 1 (B 41), rO 1 (B 42), rO 1 (B 43), rO 1 (B 44), rO 1 (B 45), rO 1 (B 46), rO 1 (B 47)]
def Za (B : Nat -> Nat) : List Ora := [{ ch := 2, hi := fun _ => B 0 }, { ch := 2, hi := fun _ => B 1 }, { ch := 2, hi := fun _ => B 2 }, { ch := 2, hi := fun _ => B 3 }, { ch := 2, hi := fun _ => B 4 }, { ch := 2, hi := fun _ => B 5 }, { ch := 2, hi := fun _ => B 6 }, { ch := 2, hi := fun _ => B 7 }, { ch := 2, hi := fun _ => B 8 }, { ch := 2, hi := fun _ => B 9 }, { ch := 2, hi := fun _ => B 10 }, { ch := 2, hi := fun _ => B 11 }, { ch := 2, hi := fun _ => B 12 }, { ch := 2, hi := fun _ => B 13 }, { ch := 2, hi := fun _ => B 14 }, { ch := 2, hi := fun _ => B 15 }, { ch := 2, hi := fun _ => B 16 }, { ch := 2, hi := fun _ => B 17 }, { ch := 2, hi := fun _ => B 18 }, { ch := 2, hi := fun _ => B 19 }, { ch := 2, hi := fun _ => B 20 }, { ch := 2, hi := fun _ => B 21 }, { ch := 2, hi := fun _ => B 22 }, { ch := 2, hi := fun _ => B 23 }, { ch := 2, hi := fun _ => B 24 }, { ch := 2, hi := fun _ => B 25 }, { ch := 2, hi := fun _ => B 26 }, { ch := 2, hi := fun _ => B 27 }, { ch := 2, hi := fun _ => B 28 }, { ch := 2, hi := fun _ => B 29 }, { ch := 2, hi := fun _ => B 30 }, { ch := 2, hi := fun _ => B 31 }, { ch := 2, hi := fun _ => B 32 }, { ch := 2, hi := fun _ => B 33 }, { ch := 2, hi := fun _ => B 34 }, { ch := 2, hi := fun _ => B 35 }, { ch := 2, hi := fun _ => B 36 }, { ch := 2, hi := fun _ => B 37 }, { ch := 2, hi := fun _ => B 38 }, { ch := 2, hi := fun _ => B 39 }, { ch := 2, hi := fun _ => B 40 }, { ch := 2, hi := fun _ => B 41 }, { ch := 2, hi := fun _ => B 42 }, { ch := 2, hi := fun _ => B 43 }, { ch := 2, hi := fun _ => B 44 }, { ch := 2, hi := fun _ => B 45 }, { ch := 2, hi := fun _ => B 46 }, { ch := 2, hi := fun _ => B 47 }]
def abH (W : Nat -> Nat -> Nat) : List Ora := [{ ch := 1, hi := fun _ => W 0 1 }, { ch := 1, hi := fun _ => W 0 2 }, { ch := 1, hi := fun _ => W 0 3 }, { ch := 1, hi := fun _ => W 0 4 }, { ch := 1, hi := fun _ => W 0 5 }, { ch := 1, hi := fun _ => W 0 6 }, { ch := 1, hi := fun _ => W 0 7 }, { ch := 1, hi := fun _ => W 0 8 }, { ch := 1, hi := fun _ => W 1 1 }, { ch := 1, hi := fun _ => W 1 2 }, { ch := 1, hi := fun _ => W 1 3 }, { ch := 1, hi := fun _ => W 1 4 }, { ch := 1, hi := fun _ => W 1 5 }, { ch := 1, hi := fun _ => W 1 6 }, { ch := 1, hi := fun _ => W 1 7 }, { ch := 1, hi := fun _ => W 1 8 }, { ch := 1, hi := fun _ => W 2 1 }, { ch := 1, hi := fun _ => W 2 2 }, { ch := 1, hi := fun _ => W 2 3 }, { ch := 1, hi := fun _ => W 2 4 }, { ch := 1, hi := fun _ => W 2 5 }, { ch := 1, hi := fun _ => W 2 6 }, { ch := 1, hi := fun _ => W 2 7 }, { ch := 1, hi := fun _ => W 2 8 }, { ch := 1, hi := fun _ => W 3 1 }, { ch := 1, hi := fun _ => W 3 2 }, { ch := 1, hi := fun _ => W 3 3 }, { ch := 1, hi := fun _ => W 3 4 }, { ch := 1, hi := fun _ => W 3 5 }, { ch := 1, hi := fun _ => W 3 6 }, { ch := 1, hi := fun _ => W 3 7 }, { ch := 1, hi := fun _ => W 3 8 }, { ch := 1, hi := fun _ => W 4 1 }, { ch := 1, hi := fun _ => W 4 2 }, { ch := 1, hi := fun _ => W 4 3 }, { ch := 1, hi := fun _ => W 4 4 }, { ch := 1, hi := fun _ => W 4 5 }, { ch := 1, hi := fun _ => W 4 6 }, { ch := 1, hi := fun _ => W 4 7 }, { ch := 1, hi := fun _ => W 4 8 }, { ch := 1, hi := fun _ => W 5 1 }, { ch := 1, hi := fun _ => W 5 2 }, { ch := 1, hi := fun _ => W 5 3 }, { ch := 1, hi := fun _ => W 5 4 }, { ch := 1, hi := fun _ => W 5 5 }, { ch := 1, hi := fun _ => W 5 6 }, { ch := 1, hi := fun _ => W 5 7 }, { ch := 1, hi := fun _ => W 5 8 }]
def acw (B : Nat -> Nat) (W : Nat -> Nat -> Nat) (last : LO0) : Nat -> Ora := fun id =>
 match PU [3, 10, 14, 25] id with
 | true => nV 48
 | false =>
  match Nat.ble 45 id, Nat.blt id 1228 with
  | true, true => (match (id - 45) % 25 with
   | 0 => Jv (YZ B) ((id - 45) / 25)
   | 1 => Jv (Za B) ((id - 45) / 25)
   | 2 => Jv (abH W) ((id - 45) / 25)
   | _ => { ch := 0, hi := fun _ => 0 })
  | _, _ => oL last id
theorem KW (l : LU0) : Ik l < 39402006196394479212279040100143613805079739270465446667948293404245721771497210611414266254884915640806627990306816 := by rw [B7]; exact Ry 48 l
set_option maxRecDepth 100000 in
theorem Kr (l : LU0) (h : l.length = 48) : ((l.length : Nat) : Int) = ((48 : Nat) : Int) := by rw [h]
def VH {l : LU0} {B : Nat -> Nat} {W : Nat -> Nat -> Nat} (h : l.length = 48) (hR : ∀ i : Nat, i < 48 -> (0 : Int) <= (i : Int) /\ (i : Int) < (ofL l).size /\ ((ofL l)[(i : Int).toNat]?.getD 0).toNat = B i) (hC : ∀ i, IntKind.u64 = IntKind.u64 /\ IntKind.u64.wrap ((B i : Nat) : Int) = ((B i % 18446744073709551616 : Nat) : Int)) (h0 : ∀ k, (0 ||| B (8 * k + 0) % 18446744073709551616) % 18446744073709551616 = W k 1 % 18446744073709551616) (h1 : ∀ k m, m < 8 -> (W k m / 18446744073709551616 ^ 0 * 2 ^ min 8 64 % 18446744073709551616 ||| B (8 * k + m) % 18446744073709551616) % 18446744073709551616 = W k (m + 1) % 18446744073709551616) := PLift.up (ai (h1 5 7 (by decide)) (ai (hC 47) (ai (hR 47 (by decide)) (ai (h1 5 6 (by decide)) (ai (hC 46) (ai (hR 46 (by decide)) (ai (h1 5 5 (by decide)) (ai (hC 45) (ai (hR 45 (by decide)) (ai (h1 5 4 (by decide)) (ai (hC 44) (ai (hR 44 (by decide)) (ai (h1 5 3 (by decide)) (ai (hC 43) (ai (hR 43 (by decide)) (ai (h1 5 2 (by decide)) (ai (hC 42) (ai (hR 42 (by decide)) (ai (h1 5 1 (by decide)) (ai (hC 41) (ai (hR 41 (by decide)) (ai (h0 5) (ai (hC 40) (ai (hR 40 (by decide)) (ai (h1 4 7 (by decide)) (ai (hC 39) (ai (hR 39 (by decide)) (ai (h1 4 6 (by decide)) (ai (hC 38) (ai (hR 38 (by decide)) (ai (h1 4 5 (by decide)) (ai (hC 37) (ai (hR 37 (by decide)) (ai (h1 4 4 (by decide)) (ai (hC 36) (ai (hR 36 (by decide)) (ai (h1 4 3 (by decide)) (ai (hC 35) (ai (hR 35 (by decide)) (ai (h1 4 2 (by decide)) (ai (hC 34) (ai (hR 34 (by decide)) (ai (h1 4 1 (by decide)) (ai (hC 33) (ai (hR 33 (by decide)) (ai (h0 4) (ai (hC 32) (ai (hR 32 (by decide)) (ai (h1 3 7 (by decide)) (ai (hC 31) (ai (hR 31 (by decide)) (ai (h1 3 6 (by decide)) (ai (hC 30) (ai (hR 30 (by decide)) (ai (h1 3 5 (by decide)) (ai (hC 29) (ai (hR 29 (by decide)) (ai (h1 3 4 (by decide)) (ai (hC 28) (ai (hR 28 (by decide)) (ai (h1 3 3 (by decide)) (ai (hC 27) (ai (hR 27 (by decide)) (ai (h1 3 2 (by decide)) (ai (hC 26) (ai (hR 26 (by decide)) (ai (h1 3 1 (by decide)) (ai (hC 25) (ai (hR 25 (by decide)) (ai (h0 3) (ai (hC 24) (ai (hR 24 (by decide)) (ai (h1 2 7 (by decide)) (ai (hC 23) (ai (hR 23 (by decide)) (ai (h1 2 6 (by decide)) (ai (hC 22) (ai (hR 22 (by decide)) (ai (h1 2 5 (by decide)) (ai (hC 21) (ai (hR 21 (by decide)) (ai (h1 2 4 (by decide)) (ai (hC 20) (ai (hR 20 (by decide)) (ai (h1 2 3 (by decide)) (ai (hC 19) (ai (hR 19 (by decide)) (ai (h1 2 2 (by decide)) (ai (hC 18) (ai (hR 18 (by decide)) (ai (h1 2 1 (by decide)) (ai (hC 17) (ai (hR 17 (by decide)) (ai (h0 2) (ai (hC 16) (ai (hR 16 (by decide)) (ai (h1 1 7 (by decide)) (ai (hC 15) (ai (hR 15 (by decide)) (ai (h1 1 6 (by decide)) (ai (hC 14) (ai (hR 14 (by decide)) (ai (h1 1 5 (by decide)) (ai (hC 13) (ai (hR 13 (by decide)) (ai (h1 1 4 (by decide)) (ai (hC 12) (ai (hR 12 (by decide)) (ai (h1 1 3 (by decide)) (ai (hC 11) (ai (hR 11 (by decide)) (ai (h1 1 2 (by decide)) (ai (hC 10) (ai (hR 10 (by decide)) (ai (h1 1 1 (by decide)) (ai (hC 9) (ai (hR 9 (by decide)) (ai (h0 1) (ai (hC 8) (ai (hR 8 (by decide)) (ai (h1 0 7 (by decide)) (ai (hC 7) (ai (hR 7 (by decide)) (ai (h1 0 6 (by decide)) (ai (hC 6) (ai (hR 6 (by decide)) (ai (h1 0 5 (by decide)) (ai (hC 5) (ai (hR 5 (by decide)) (ai (h1 0 4 (by decide)) (ai (hC 4) (ai (hR 4 (by decide)) (ai (h1 0 3 (by decide)) (ai (hC 3) (ai (hR 3 (by decide)) (ai (h1 0 2 (by decide)) (ai (hC 2) (ai (hR 2 (by decide)) (ai (h1 0 1 (by decide)) (ai (hC 1) (ai (hR 1 (by decide)) (ai (h0 0) (ai (hC 0) (ai (hR 0 (by decide)) (ai (Kr l h) (ai (Kr l h) (ai (Kr l h) (ai (Kr l h) tt0))))))))))))))))))))))))))))))))))))))))))))))))))))))))))))))))))))))))))))))))))))))))))))))))))))))))))))))))))))))))))))))))))))))))))))))))))))
theorem Jw {a : List XV} {r : AV} {b : Prop} (o : Nat -> Ora) (h : fnA prog (qO _) [CI] 1 o f94 a = some (r, b)) (hv : ∃ v, r.val? = some v) (hb : b) : Gives prog 94 a r := p6 (P := prog) (X := qO _) (env := [CI]) ⟨G5, tt0⟩ func94 1 o h hv hb
theorem Nt (l : LU0) (B : Nat -> Nat) (W : Nat -> Nat -> Nat) (h : l.length = 48) (hR : ∀ i : Nat, i < 48 -> (0 : Int) <= (i : Int) /\ (i : Int) < (ofL l).size /\ ((ofL l)[(i : Int).toNat]?.getD 0).toNat = B i) (hC : ∀ i, IntKind.u64 = IntKind.u64 /\ IntKind.u64.wrap ((B i : Nat) : Int) = ((B i % 18446744073709551616 : Nat) : Int)) (h0 : ∀ k, (0 ||| B (8 * k + 0) % 18446744073709551616) % 18446744073709551616 = W k 1 % 18446744073709551616) (h1 : ∀ k m, m < 8 -> (W k m / 18446744073709551616 ^ 0 * 2 ^ min 8 64 % 18446744073709551616 ||| B (8 * k + m) % 18446744073709551616) % 18446744073709551616 = W k (m + 1) % 18446744073709551616) (hN : (W 5 8 % 18446744073709551616 + 18446744073709551616 * (W 4 8 % 18446744073709551616 + 18446744073709551616 * (W 3 8 % 18446744073709551616 + 18446744073709551616 * (W 2 8 % 18446744073709551616 + 18446744073709551616 * (W 1 8 % 18446744073709551616 + 18446744073709551616 * (W 0 8 % 18446744073709551616 + 18446744073709551616 * (0))))))) < 39402006196394479212279040100143613805079739270465446667948293404245721771497210611414266254884915640806627990306816 /\ (W 5 8 % 18446744073709551616 + 18446744073709551616 * (W 4 8 % 18446744073709551616 + 18446744073709551616 * (W 3 8 % 18446744073709551616 + 18446744073709551616 * (W 2 8 % 18446744073709551616 + 18446744073709551616 * (W 1 8 % 18446744073709551616 + 18446744073709551616 * (W 0 8 % 18446744073709551616 + 18446744073709551616 * (0))))))) < 4002409555221667393417789825735904156556882819939007885332058136124031650490837864442687629129015664037894272559787) : Gives prog 94 [.t (.v (.string (ofL l)))] (.tp [.ag [.n 1 (W 5 8), .n 1 (W 4 8), .n 1 (W 3 8), .n 1 (W 2 8), .n 1 (W 1 8), .n 1 (W 0 8)], vi0 0]) :=
 Jw (acw B W [(1244, wO 0)]) (by kernel_rfl) ⟨_, rfl⟩ (ai (hN) (VH h hR hC h0 h1).down)
set_option maxRecDepth 100000 in
abbrev Rj : List Ch := [.c (.int .u64 0), .c (.int .u64 0), .c (.int .u64 0), .c (.int .u64 0), .c (.int .u64 0), .c (.int .u64 0)]
theorem M0 (l : LU0) (B : Nat -> Nat) (W : Nat -> Nat -> Nat) (h : l.length = 48) (hR : ∀ i : Nat, i < 48 -> (0 : Int) <= (i : Int) /\ (i : Int) < (ofL l).size /\ ((ofL l)[(i : Int).toNat]?.getD 0).toNat = B i) (hC : ∀ i, IntKind.u64 = IntKind.u64 /\ IntKind.u64.wrap ((B i : Nat) : Int) = ((B i % 18446744073709551616 : Nat) : Int)) (h0 : ∀ k, (0 ||| B (8 * k + 0) % 18446744073709551616) % 18446744073709551616 = W k 1 % 18446744073709551616) (h1 : ∀ k m, m < 8 -> (W k m / 18446744073709551616 ^ 0 * 2 ^ min 8 64 % 18446744073709551616 ||| B (8 * k + m) % 18446744073709551616) % 18446744073709551616 = W k (m + 1) % 18446744073709551616) (hN : (W 5 8 % 18446744073709551616 + 18446744073709551616 * (W 4 8 % 18446744073709551616 + 18446744073709551616 * (W 3 8 % 18446744073709551616 + 18446744073709551616 * (W 2 8 % 18446744073709551616 + 18446744073709551616 * (W 1 8 % 18446744073709551616 + 18446744073709551616 * (W 0 8 % 18446744073709551616 + 18446744073709551616 * (0))))))) < 39402006196394479212279040100143613805079739270465446667948293404245721771497210611414266254884915640806627990306816 /\ 4002409555221667393417789825735904156556882819939007885332058136124031650490837864442687629129015664037894272559787 <= (W 5 8 % 18446744073709551616 + 18446744073709551616 * (W 4 8 % 18446744073709551616 + 18446744073709551616 * (W 3 8 % 18446744073709551616 + 18446744073709551616 * (W 2 8 % 18446744073709551616 + 18446744073709551616 * (W 1 8 % 18446744073709551616 + 18446744073709551616 * (W 0 8 % 18446744073709551616 + 18446744073709551616 * (0)))))))) : Gives prog 94 [.t (.v (.string (ofL l)))] (.tp [.ag Rj, vi0 20]) :=
 Jw (acw B W [(1244, wO 1)]) (by kernel_rfl) ⟨_, rfl⟩ (ai (hN) (VH h hR hC h0 h1).down)
theorem P7 (l : LU0) (h : l.length = 48) (hp : deN 48 l < 4002409555221667393417789825735904156556882819939007885332058136124031650490837864442687629129015664037894272559787) : Gives prog 94 [.t (.v (.string (ofL l)))] (.tp [.ag [.q (ofP (deN 48 l))], vi0 0]) :=
 Gives.same (Nt l (byt l) (pre l) h (fun i hi => yQ l 48 i h hi) (yA l) (B0 l) (fun k m hm => by rw [Nat.pow_zero, Nat.div_one]; exact F4 l k m hm) (show Ik l < 39402006196394479212279040100143613805079739270465446667948293404245721771497210611414266254884915640806627990306816 /\ Ik l < 4002409555221667393417789825735904156556882819939007885332058136124031650490837864442687629129015664037894272559787 from ⟨KW l, by rw [B7]; exact hp⟩)) (Uk l hp).symm
theorem Qi (l : LU0) (h : l.length = 48) (hp : 4002409555221667393417789825735904156556882819939007885332058136124031650490837864442687629129015664037894272559787 <= deN 48 l) : Gives prog 94 [.t (.v (.string (ofL l)))] (.tp [.ag [.c (.int .u64 0), .c (.int .u64 0), .c (.int .u64 0), .c (.int .u64 0), .c (.int .u64 0), .c (.int .u64 0)], vi0 20]) :=
 M0 l (byt l) (pre l) h (fun i hi => yQ l 48 i h hi) (yA l) (B0 l) (fun k m hm => by rw [Nat.pow_zero, Nat.div_one]; exact F4 l k m hm) (show Ik l < 39402006196394479212279040100143613805079739270465446667948293404245721771497210611414266254884915640806627990306816 /\ 4002409555221667393417789825735904156556882819939007885332058136124031650490837864442687629129015664037894272559787 <= Ik l from ⟨KW l, by rw [B7]; exact hp⟩)
theorem Nl (l : LU0) (h : l.length ≠ 48) : Gives prog 94 [.t (.v (.string (ofL l)))] (.tp [.ag Rj, vi0 3]) :=
 Jw (oL [(4, wT)]) (by kernel_rfl) ⟨_, rfl⟩ (ai (show ((((l.length : Nat) : Int) != 48) = true) from by simp; omega) tt0)
def C7 : Entry := ql 94 XPar.str (fun l => [(some (l.length ≠ 48), .tp [.ag [.c (.int .u64 0), .c (.int .u64 0), .c (.int .u64 0), .c (.int .u64 0), .c (.int .u64 0), .c (.int .u64 0)], vi0 3]), (some (l.length = 48 /\ deN 48 l < 4002409555221667393417789825735904156556882819939007885332058136124031650490837864442687629129015664037894272559787), .tp [.ag [.q (ofP (deN 48 l))], vi0 0]), (some (l.length = 48 /\ 4002409555221667393417789825735904156556882819939007885332058136124031650490837864442687629129015664037894272559787 <= deN 48 l), .tp [.ag [.c (.int .u64 0), .c (.int .u64 0), .c (.int .u64 0), .c (.int .u64 0), .c (.int .u64 0), .c (.int .u64 0)], vi0 20])])
theorem EQ : C7.OK prog := qb (fun args w => Go.Proofs.enters_of (P := prog) func94 (by kernel_rfl) rfl args w) (fun l c r hm hc => by
 simp only [List.mem_cons, pi0, List.not_mem_nil, or_false] at hm
 rcases hm with ⟨rfl, rfl⟩ | ⟨rfl, rfl⟩ | ⟨rfl, rfl⟩
 ·exact Nl l hc
 ·exact P7 l hc.1 hc.2
 ·exact Qi l hc.1 hc.2)
end Go.Proofs.YtokjhbmmdmeafaaGreat
set_option linter.unusedVariables false
namespace Go.Proofs.YtokjhbmmdmeafaaGreat
open Go.Ev Go.RowKit
open Tryz
theorem NJ (w : World) (v : Value) (t : TypeId) : (w.alloc (Obj.cells #[v] t)).drew.cell? ⟨w.heap.size, 0, none⟩ = some v := by
 show (w.alloc (Obj.cells #[v] t)).cell? ⟨w.heap.size, 0, none⟩ = some v
 rw [World.cell?_alloc_new]
 rfl
theorem R9 (w w1 : World) (b : Nat) (n : Int) (h : w1.cell? ⟨b, 0, none⟩ = some (.int .u8 n)) : (convert 157 9 (.slice (some ⟨b, 0, none⟩) 1 1)).run prog w1 = .ok (.string ⟨#[UInt8.ofNat n.toNat]⟩) w1 := by
 rw [run_convert_bytes_string w1 _ _ 5 _ _ _ Tryz.underlying157 Tryz.underlying5 Tryz.underlying9]
 have h1 := run_loadCells_list (P := prog) w1 ⟨b, 0, none⟩ [.int .u8 n] (fun j v hj => by
  match j, hj with
  | 0, hj => simp at hj; subst hj; simpa [Addr.add] using h)
 rw [run_bytesToString w1 _ 1 1 [n] h1]
 rfl
set_option maxRecDepth 100000 in
theorem Gw (s : ByteArray) (f : Int) (w : World) (hs : 0 < s.size) (h63 : s.size <= 1000) : Calls prog 125 #[.string s, .int .u8 f] w fun e w' => e = .returned (.string (⟨#[UInt8.ofNat (bits BinOp.or IntKind.u8 (s[0].toNat : Int) f).toNat]⟩ ++ s.extract 1 s.size)) /\ Below w.heap.size w w' := by
 have hc := R9 w (w.alloc (Obj.cells #[Value.int IntKind.u8 (bits BinOp.or IntKind.u8 (↑s[0].toNat) f)] 5)).drew w.heap.size _ (NJ w _ _)
 go_enter func125, Tryz.ntmps125
 go_wp2
 go_region
 go_wp2
 go_ret
 exact ⟨rfl, ((Below.refl _ _).alloc (Nat.le_refl _) _).drew⟩
theorem Vb (l : LU0) (f : Int) (h : 0 < (ofL l).size) : (⟨#[UInt8.ofNat (bits BinOp.or IntKind.u8 ((ofL l)[0].toNat : Int) f).toNat]⟩ : ByteArray) ++ (ofL l).extract 1 (ofL l).size = ofL (yl l f) := by
 match l, h with
 | b :: r, h =>
  apply ByteArray.ext
  apply Array.toList_inj.1
  rw [ByteArray.data_append, ByteArray.data_extract]
  show (#[UInt8.ofNat (bits BinOp.or IntKind.u8 (b.toNat : Int) f).toNat] ++ (b :: r).toArray.extract 1 (b :: r).toArray.size).toList = (UInt8.ofNat (bits BinOp.or IntKind.u8 (b.toNat : Int) f).toNat :: r)
  simp
def Hz : Entry := sW 125 XPar.str (XPar.int .u8) (fun l f => [(some (0 < l.length /\ l.length <= 1000), .v (.string (ofL (yl l f))))])
theorem GR : Hz.OK prog := q9 (fun args w => Go.Proofs.enters_of (P := prog) func125 (by kernel_rfl) rfl args w) (fun l f c r hm hc => by
 simp only [List.mem_cons, pi0, List.not_mem_nil, or_false] at hm
 obtain ⟨rfl, rfl⟩ := hm
 refine ⟨_, rfl, fun w vs hx => ?_⟩
 match vs, hx with
 | [p, q], hx =>
  have h1 : p = .string (ofL l) := (Option.some.inj (hx.1 : some (Value.string (ofL l)) = some p)).symm
  subst h1
  have h2 : q = .int .u8 f := (Option.some.inj (hx.2.1 : some (Value.int .u8 f) = some q)).symm
  subst h2
  have h := Gw (ofL l) f w hc.1 hc.2
  rw [Vb l f hc.1] at h
  exact h)
theorem FZ (v : Value) (r : LU0) : flat [.c v, .y r] = v :: r.map rf := by simp [flat, Ch.cells]
theorem RW (v : Value) (b : UInt8) (r : LU0) : (flat [.c v, .y r]).take (ofL (b :: r)).size = v :: r.map rf := by
 rw [FZ]
 exact List.take_of_length_le (Nat.le_of_eq (by simp only [List.length_cons, List.length_map]; rfl))
end Go.Proofs.YtokjhbmmdmeafaaGreat
set_option linter.unusedSimpArgs false
set_option linter.unusedVariables false
namespace Go.Proofs.YtokjhbmmdmeafaaGreat
open Go.Ev Go.RowKit
open Tryz
theorem KK : 0 < 48 /\ 48 <= 1000 := by decide
def Wl (x : Nat) (y : Nat) (hx : small x) (hy : small y) (hr : may1 (x, y, false)) (hg : rp (x, y, false)) := PLift.up (ai (show smP y from hy) (ai (show DG (.inr y) from hy) (ai (show DG (.inr x) from hx) (ai (show sml1 (x, y, false) /\ may1 (x, y, false) /\ rp (x, y, false) from ⟨⟨hx, hy⟩, hr, hg⟩) (ai (show sml1 (x, y, false) /\ may1 (x, y, false) from ⟨⟨hx, hy⟩, hr⟩) tt0)))))
abbrev EU := oL [(9, wO 0), (13, wO 0), (27, wO 1)]
theorem AC {a : List XV} {r : AV} {b : Prop} (o : Nat -> Ora) (h : fnA prog (qO _) [Bx, Ia, E3, Co, wJ, Hz] 2 o f41 a = some (r, b)) (hv : ∃ v, r.val? = some v) (hb : b) : Gives prog 41 a r := p6 (P := prog) (X := qO _) (env := [Bx, Ia, E3, Co, wJ, Hz]) ⟨xF, Ix, Ec, uP, tV, GR, tt0⟩ func41 2 o h hv hb
theorem Vc (x y : Nat) (hx : small x) (hy : small y) (hr : may1 (x, y, false)) (hg : rp (x, y, false)) (hh : ¬ hiP (ofP y)) : Gives prog 41 [.t (.ag [.n 6 x, .n 6 y, .c (.bool false)])] (.tp [.v (.string (ofL (yl (b1 (ofP x)) (tz false false true)))), vi0 0]) :=
 AC EU (by kernel_rfl) ⟨_, rfl⟩ (ai KK (ai (show ¬ hiP (ofP y) from hh)
   (Wl x y hx hy hr hg).down))
abbrev Gn := oL [(9, wO 0), (13, wO 0), (27, wO 0)]
theorem Ug (x y : Nat) (hx : small x) (hy : small y) (hr : may1 (x, y, false)) (hg : rp (x, y, false)) (hh : hiP (ofP y)) : Gives prog 41 [.t (.ag [.n 6 x, .n 6 y, .c (.bool false)])] (.tp [.v (.string (ofL (yl (b1 (ofP x)) (tz false true true)))), vi0 0]) :=
 AC Gn (by kernel_rfl) ⟨_, rfl⟩ (ai KK (ai (show hiP (ofP y) from hh)
   (Wl x y hx hy hr hg).down))
def Wd (x : Nat) (y : Nat) (hx : small x) (hy : small y) (hr : may1 (x, y, true)) (hg : rp (x, y, true)) := PLift.up (ai (show smP y from hy) (ai (show DG (.inr y) from hy) (ai (show DG (.inr x) from hx) (ai (show sml1 (x, y, true) /\ may1 (x, y, true) /\ rp (x, y, true) from ⟨⟨hx, hy⟩, hr, hg⟩) (ai (show sml1 (x, y, true) /\ may1 (x, y, true) from ⟨⟨hx, hy⟩, hr⟩) tt0)))))
theorem Ut (x y : Nat) (hx : small x) (hy : small y) (hr : may1 (x, y, true)) (hg : rp (x, y, true)) (hh : ¬ hiP (ofP y)) : Gives prog 41 [.t (.ag [.n 6 x, .n 6 y, .c (.bool true)])] (.tp [.v (.string (ofL (yl (b1 (ofP x)) (tz true false true)))), vi0 0]) :=
 AC EU (by kernel_rfl) ⟨_, rfl⟩ (ai KK (ai (show ¬ hiP (ofP y) from hh)
   (Wd x y hx hy hr hg).down))
theorem SV (x y : Nat) (hx : small x) (hy : small y) (hr : may1 (x, y, true)) (hg : rp (x, y, true)) (hh : hiP (ofP y)) : Gives prog 41 [.t (.ag [.n 6 x, .n 6 y, .c (.bool true)])] (.tp [.v (.string (ofL (yl (b1 (ofP x)) (tz true true true)))), vi0 0]) :=
 AC Gn (by kernel_rfl) ⟨_, rfl⟩ (ai KK (ai (show hiP (ofP y) from hh)
   (Wd x y hx hy hr hg).down))
theorem Ra (a : A1) (hs : sml1 a) (h : ¬ may1 a) : Gives prog 41 [.t (.ag [.n 6 a.1, .n 6 a.2.1, .c (.bool a.2.2)])] (.tp [.v (.string (ofL [])), vi0 30]) :=
 AC (oL [(9, wO 1)]) (by kernel_rfl) ⟨_, rfl⟩ (ai (show sml1 a /\ ¬ may1 a from ⟨hs, h⟩) tt0)
theorem N9 (a : A1) (hs : sml1 a) (h : may1 a) (g : ¬ rp a) : Gives prog 41 [.t (.ag [.n 6 a.1, .n 6 a.2.1, .c (.bool a.2.2)])] (.tp [.v (.string (ofL [])), vi0 31]) :=
 AC (oL [(9, wO 0), (13, wO 1)]) (by kernel_rfl) ⟨_, rfl⟩ (ai (show sml1 a /\ may1 a /\ ¬ rp a from ⟨hs, h, g⟩) (FP a hs h).down)
theorem U5 (a : A1) (hs : sml1 a) (h : may1 a) (g : rp a) : Gives prog 41 [.t (.ag [.n 6 a.1, .n 6 a.2.1, .c (.bool a.2.2)])] (.tp [.v (.string (ofL (putL1 (ofP a.1) (ofP a.2.1) a.2.2 true))), vi0 0]) := by
 obtain ⟨x, y, b⟩ := a
 unfold putL1
 cases b <;> by_cases hh : hiP (ofP y)
 ·rw [show decide (hiP (ofP (x, y, false).2.1)) = true from decide_eq_true hh]; exact Ug x y hs.1 hs.2 h g hh
 ·rw [show decide (hiP (ofP (x, y, false).2.1)) = false from decide_eq_false hh]; exact Vc x y hs.1 hs.2 h g hh
 ·rw [show decide (hiP (ofP (x, y, true).2.1)) = true from decide_eq_true hh]; exact SV x y hs.1 hs.2 h g hh
 ·rw [show decide (hiP (ofP (x, y, true).2.1)) = false from decide_eq_false hh]; exact Ut x y hs.1 hs.2 h g hh
end Go.Proofs.YtokjhbmmdmeafaaGreat
set_option linter.unusedSimpArgs false
set_option linter.unusedVariables false
namespace Go.Proofs.YtokjhbmmdmeafaaGreat
open Go.Ev Go.RowKit
open Tryz
def pc2 (p : Pt2) : List Ch := [.m (p).1.1, .m (p).1.2, .m (p).2.1.1, .m (p).2.1.2, .m (p).2.2.1, .m (p).2.2.2]
def F7 : Par Pt2 := ab5
theorem zM : flat (m2 ((0, 0) : F2)) = flat [.c (.int .u64 0), .c (.int .u64 0), .c (.int .u64 0), .c (.int .u64 0), .c (.int .u64 0), .c (.int .u64 0), .c (.int .u64 0), .c (.int .u64 0), .c (.int .u64 0), .c (.int .u64 0), .c (.int .u64 0), .c (.int .u64 0)] := by kernel_rfl
theorem xQ : ∀ l m : List (Fin Pp), l.length = m.length -> flat (l.map .m) = flat (m.map .m) -> l = m
 | [], [], _, _ => rfl
 | [], _ :: _, h, _ => by simp at h
 | _ :: _, [], h, _ => by simp at h
 | x :: l, y :: m, h, e => by
  have e' : limbs 6 (toM x) ++ flat (l.map .m) = limbs 6 (toM y) ++ flat (m.map .m) := e
  have hl : (limbs 6 (toM x)).length = (limbs 6 (toM y)).length := by simp only [limbs, List.length_cons, List.length_nil]
  have h1 := List.append_inj e' hl
  have h2 : flat [Ch.m x] = flat [Ch.m y] := by simp only [flat, Ch.cells, List.append_nil]; exact h1.1
  rw [wC h2, xQ l m (by simpa using h) h1.2]
theorem XS (a : F2) (h : a = (0, 0)) : Gives prog 51 [.t (.ag (m2 a))] (.v (.bool true)) := pX (P := prog) (env := []) trivial func51 0 (oN [] [(4, 0)]) (by kernel_rfl) (ai (show flat (m2 a) = flat [.c (.int .u64 0), .c (.int .u64 0), .c (.int .u64 0), .c (.int .u64 0), .c (.int .u64 0), .c (.int .u64 0), .c (.int .u64 0), .c (.int .u64 0), .c (.int .u64 0), .c (.int .u64 0), .c (.int .u64 0), .c (.int .u64 0)] from by rw [h]; exact zM) tt0)
theorem Xq (a : F2) (h : a ≠ (0, 0)) : Gives prog 51 [.t (.ag (m2 a))] (.v (.bool false)) := pX (P := prog) (env := []) trivial func51 0 (oN [] [(4, 1)]) (by kernel_rfl) (ai (show ¬ flat (m2 a) = flat [.c (.int .u64 0), .c (.int .u64 0), .c (.int .u64 0), .c (.int .u64 0), .c (.int .u64 0), .c (.int .u64 0), .c (.int .u64 0), .c (.int .u64 0), .c (.int .u64 0), .c (.int .u64 0), .c (.int .u64 0), .c (.int .u64 0)] from fun e => h (by
 have := xQ [a.1, a.2] [0, 0] rfl (e.trans zM.symm)
 simp only [List.cons.injEq] at this
 exact vq this.1 this.2.1)) tt0)
def xq : Entry := ql 51 uI.x (fun a => [(some (a = (0, 0)), .v (.bool true)), (some (a ≠ (0, 0)), .v (.bool false))])
theorem tg : xq.OK prog := qb (fun args w => Go.Proofs.enters_of (P := prog) func51 (by kernel_rfl) rfl args w) (fun a c r hm hc => by
 simp only [List.mem_cons, pi0, List.not_mem_nil, or_false] at hm
 rcases hm with ⟨rfl, rfl⟩ | ⟨rfl, rfl⟩
 ·exact XS a hc
 ·exact Xq a hc)
theorem QG (p : Pt2) (h : p.2.2 = ((0, 0) : F2)) : Gives prog 89 [.t (.ag (pc2 p))] (.ag (pc2 (sP p))) := by
 unfold sP
 rw [if_pos h]
 exact pX (P := prog) (env := [xq, tc, vt, r8]) ⟨tg, rk, tu, qX, tt0⟩ func89 0 (oL [(5, wO 0)]) (by kernel_rfl) (ai h tt0)
theorem Qj (p : Pt2) (h : p.2.2 ≠ ((0, 0) : F2)) : Gives prog 89 [.t (.ag (pc2 p))] (.ag (pc2 (sP p))) := by
 unfold sP
 rw [if_neg h]
 exact pX (P := prog) (env := [xq, tc, vt, r8]) ⟨tg, rk, tu, qX, tt0⟩ func89 0 (oL [(5, wO 1)]) (by kernel_rfl) (ai h tt0)
def uq : Entry := ql 89 F7.x (fun p => [(none, .ag (pc2 (sP p)))])
theorem su : uq.OK prog := qb (fun args w => Go.Proofs.enters_of (P := prog) func89 (by kernel_rfl) rfl args w) (fun p => only (by
 by_cases h : p.2.2 = ((0, 0) : F2)
 ·exact QG p h
 ·exact Qj p h))
theorem ZX (p q : Pt2) : Gives prog 87 [.t (.ag (pc2 p)), .t (.ag (pc2 q))] (.ag (pc2 (zF p q))) := by
 unfold zF
 by_cases h1 : p.2.2 = ((0, 0) : F2)
 ·rw [if_pos h1]
  exact pX (P := prog) (env := [xq, uq, tc, vt, r8]) ⟨tg, su, rk, tu, qX, tt0⟩ func87 0 (oL [(6, wO 0)]) (by kernel_rfl) (ai h1 tt0)
 ·rw [if_neg h1]
  by_cases h2 : q.2.2 = ((0, 0) : F2)
  ·rw [if_pos h2]
   exact pX (P := prog) (env := [xq, uq, tc, vt, r8]) ⟨tg, su, rk, tu, qX, tt0⟩ func87 0 (oL [(6, wO 1), (11, wO 0)]) (by kernel_rfl) (ai h2 (ai h1 tt0))
  ·rw [if_neg h2]
   by_cases h3 : hP2 p q = ((0, 0) : F2)
   ·rw [if_pos h3]
    by_cases h4 : rP2 p q = ((0, 0) : F2)
    ·rw [if_pos h4]
     exact pX (P := prog) (env := [xq, uq, tc, vt, r8]) ⟨tg, su, rk, tu, qX, tt0⟩ func87 0 (oL [(6, wO 1), (11, wO 1), (79, wO 0), (82, wO 0)]) (by kernel_rfl) (ai h4 (ai h3 (ai h2 (ai h1 tt0))))
    ·rw [if_neg h4]
     refine Gives.same (r := .ag ([.m p.1.1, .m p.1.2, .m p.2.1.1, .m p.2.1.2, .c (.int .u64 0), .c (.int .u64 0), .c (.int .u64 0), .c (.int .u64 0), .c (.int .u64 0), .c (.int .u64 0), .c (.int .u64 0), .c (.int .u64 0), .c (.int .u64 0), .c (.int .u64 0), .c (.int .u64 0), .c (.int .u64 0)])) (pX (P := prog) (env := [xq, uq, tc, vt, r8]) ⟨tg, su, rk, tu, qX, tt0⟩ func87 0 (oL [(6, wO 1), (11, wO 1), (79, wO 0), (82, wO 1)]) (by kernel_rfl) (ai h4 (ai h3 (ai h2 (ai h1 tt0))))) (rK rfl rfl ?_)
     show flat ([.m p.1.1, .m p.1.2, .m p.2.1.1, .m p.2.1.2] ++ m2 ((0, 0) : F2)) = flat ([.m p.1.1, .m p.1.2, .m p.2.1.1, .m p.2.1.2] ++ [.c (.int .u64 0), .c (.int .u64 0), .c (.int .u64 0), .c (.int .u64 0), .c (.int .u64 0), .c (.int .u64 0), .c (.int .u64 0), .c (.int .u64 0), .c (.int .u64 0), .c (.int .u64 0), .c (.int .u64 0), .c (.int .u64 0)])
     rw [qm, qm, zM]
   ·rw [if_neg h3]
    exact pX (P := prog) (env := [xq, uq, tc, vt, r8]) ⟨tg, su, rk, tu, qX, tt0⟩ func87 0 (oL [(6, wO 1), (11, wO 1), (79, wO 1)]) (by kernel_rfl) (ai h3 (ai h2 (ai h1 tt0)))
def zS : Entry := sW 87 F7.x F7.x (fun p q => [(none, .ag (pc2 (zF p q)))])
theorem wX : zS.OK prog := q9 (fun args w => Go.Proofs.enters_of (P := prog) func87 (by kernel_rfl) rfl args w) (fun p q => only (ZX p q))
def CF (p : Pt2) : List Ch := [.m p.1.1, .m p.1.2, .m p.2.1.1, .m p.2.1.2, .c (.int .u64 0), .c (.int .u64 0), .c (.int .u64 0), .c (.int .u64 0), .c (.int .u64 0), .c (.int .u64 0), .c (.int .u64 0), .c (.int .u64 0), .c (.int .u64 0), .c (.int .u64 0), .c (.int .u64 0), .c (.int .u64 0), .m (qi p 1).1.1, .m (qi p 1).1.2, .m (qi p 1).2.1.1, .m (qi p 1).2.1.2, .m (qi p 1).2.2.1, .m (qi p 1).2.2.2, .m (qi p 2).1.1, .m (qi p 2).1.2, .m (qi p 2).2.1.1, .m (qi p 2).2.1.2, .m (qi p 2).2.2.1, .m (qi p 2).2.2.2, .m (qi p 3).1.1, .m (qi p 3).1.2, .m (qi p 3).2.1.1, .m (qi p 3).2.1.2, .m (qi p 3).2.2.1, .m (qi p 3).2.2.2, .m (qi p 4).1.1, .m (qi p 4).1.2, .m (qi p 4).2.1.1, .m (qi p 4).2.1.2, .m (qi p 4).2.2.1, .m (qi p 4).2.2.2, .m (qi p 5).1.1, .m (qi p 5).1.2, .m (qi p 5).2.1.1, .m (qi p 5).2.1.2, .m (qi p 5).2.2.1, .m (qi p 5).2.2.2, .m (qi p 6).1.1, .m (qi p 6).1.2, .m (qi p 6).2.1.1, .m (qi p 6).2.1.2, .m (qi p 6).2.2.1, .m (qi p 6).2.2.2, .m (qi p 7).1.1, .m (qi p 7).1.2, .m (qi p 7).2.1.1, .m (qi p 7).2.1.2, .m (qi p 7).2.2.1, .m (qi p 7).2.2.2, .m (qi p 8).1.1, .m (qi p 8).1.2, .m (qi p 8).2.1.1, .m (qi p 8).2.1.2, .m (qi p 8).2.2.1, .m (qi p 8).2.2.2, .m (qi p 9).1.1, .m (qi p 9).1.2, .m (qi p 9).2.1.1, .m (qi p 9).2.1.2, .m (qi p 9).2.2.1, .m (qi p 9).2.2.2, .m (qi p 10).1.1, .m (qi p 10).1.2, .m (qi p 10).2.1.1, .m (qi p 10).2.1.2, .m (qi p 10).2.2.1, .m (qi p 10).2.2.2, .m (qi p 11).1.1, .m (qi p 11).1.2, .m (qi p 11).2.1.1, .m (qi p 11).2.1.2, .m (qi p 11).2.2.1, .m (qi p 11).2.2.2, .m (qi p 12).1.1, .m (qi p 12).1.2, .m (qi p 12).2.1.1, .m (qi p 12).2.1.2, .m (qi p 12).2.2.1, .m (qi p 12).2.2.2, .m (qi p 13).1.1, .m (qi p 13).1.2, .m (qi p 13).2.1.1, .m (qi p 13).2.1.2, .m (qi p 13).2.2.1, .m (qi p 13).2.2.2, .m (qi p 14).1.1, .m (qi p 14).1.2, .m (qi p 14).2.1.1, .m (qi p 14).2.1.2, .m (qi p 14).2.2.1, .m (qi p 14).2.2.2, .m (qi p 15).1.1, .m (qi p 15).1.2, .m (qi p 15).2.1.1, .m (qi p 15).2.1.2, .m (qi p 15).2.2.1, .m (qi p 15).2.2.2]
theorem R3 (p : Pt2) : (flat (pc2 p)).length = 36 := by rw [vH]; rfl
theorem Kb (p : Pt2) : flat (CF p) = (List.range 16).flatMap (fun j => flat (pc2 (qi p j))) := by
 have e0 : flat (pc2 (qi p 0)) = flat [.m p.1.1, .m p.1.2, .m p.2.1.1, .m p.2.1.2, .c (.int .u64 0), .c (.int .u64 0), .c (.int .u64 0), .c (.int .u64 0), .c (.int .u64 0), .c (.int .u64 0), .c (.int .u64 0), .c (.int .u64 0), .c (.int .u64 0), .c (.int .u64 0), .c (.int .u64 0), .c (.int .u64 0)] := by
  show flat ([.m p.1.1, .m p.1.2, .m p.2.1.1, .m p.2.1.2] ++ m2 ((0, 0) : F2)) = flat ([.m p.1.1, .m p.1.2, .m p.2.1.1, .m p.2.1.2] ++ [.c (.int .u64 0), .c (.int .u64 0), .c (.int .u64 0), .c (.int .u64 0), .c (.int .u64 0), .c (.int .u64 0), .c (.int .u64 0), .c (.int .u64 0), .c (.int .u64 0), .c (.int .u64 0), .c (.int .u64 0), .c (.int .u64 0)])
  rw [qm, qm, zM]
 have e1 : CF p = [.m p.1.1, .m p.1.2, .m p.2.1.1, .m p.2.1.2, .c (.int .u64 0), .c (.int .u64 0), .c (.int .u64 0), .c (.int .u64 0), .c (.int .u64 0), .c (.int .u64 0), .c (.int .u64 0), .c (.int .u64 0), .c (.int .u64 0), .c (.int .u64 0), .c (.int .u64 0), .c (.int .u64 0)] ++ (pc2 (qi p 1) ++ (pc2 (qi p 2) ++ (pc2 (qi p 3) ++ (pc2 (qi p 4) ++ (pc2 (qi p 5) ++ (pc2 (qi p 6) ++ (pc2 (qi p 7) ++ (pc2 (qi p 8) ++ (pc2 (qi p 9) ++ (pc2 (qi p 10) ++ (pc2 (qi p 11) ++ (pc2 (qi p 12) ++ (pc2 (qi p 13) ++ (pc2 (qi p 14) ++ pc2 (qi p 15))))))))))))))) := rfl
 rw [e1]
 simp only [qm, ← e0]
 simp [List.range_succ_eq_map, List.flatMap]
theorem HB (p : Pt2) (j : Nat) (h : j < 16) : ((flat (CF p)).drop (0 + j * 36)).take 36 = flat (pc2 (qi p j)) := by
 rw [Nat.zero_add, Kb]
 exact zX (fun j => flat (pc2 (qi p j))) 36 (fun j => R3 _) 16 j h
def vS (r : Array Tmp × Code × Code) (p : Pt2) (k : Nat) (b : Bool) (z : Int) (o : List Ch) : LState := { n := 32, sl := [(0, .yd 235), (1, .p 230 0), (3, .v (.bool b)), (4, vi0 z)], hp := [(0, .own (pc2 p) 114), (1, .own [.n 4 k] 28), (2, .own [.c (.int .u64 0), .c (.int .u64 0), .c (.int .u64 0), .c (.int .u64 0), .c (.int .u64 0), .c (.int .u64 0), .c (.int .u64 0), .c (.int .u64 0), .c (.int .u64 0), .c (.int .u64 0), .c (.int .u64 0), .c (.int .u64 0), .c (.int .u64 0), .c (.int .u64 0), .c (.int .u64 0), .c (.int .u64 0), .c (.int .u64 0), .c (.int .u64 0), .c (.int .u64 0), .c (.int .u64 0), .c (.int .u64 0), .c (.int .u64 0), .c (.int .u64 0), .c (.int .u64 0), .c (.int .u64 0), .c (.int .u64 0), .c (.int .u64 0), .c (.int .u64 0), .c (.int .u64 0), .c (.int .u64 0), .c (.int .u64 0), .c (.int .u64 0), .c (.int .u64 0), .c (.int .u64 0), .c (.int .u64 0), .c (.int .u64 0)] 114), (3, .own (CF p) 164), (226, .own o 114), (230, .own [.n 4 k] 28), (234, .dfd),
 (235, .lp .ready none ⟨43, .any, trOf [(5, .p 3 0), (7, .p 226 0)]⟩ r.1 r.2.1 r.2.2 234)] }
def Qh (r : Array Tmp × Code × Code) (p : Pt2) (k : Nat) (o : List Ch) : LState := { n := 32, sl := [], hp := [(0, .own (pc2 p) 114), (1, .own [.n 4 k] 28), (2, .own [.c (.int .u64 0), .c (.int .u64 0), .c (.int .u64 0), .c (.int .u64 0), .c (.int .u64 0), .c (.int .u64 0), .c (.int .u64 0), .c (.int .u64 0), .c (.int .u64 0), .c (.int .u64 0), .c (.int .u64 0), .c (.int .u64 0), .c (.int .u64 0), .c (.int .u64 0), .c (.int .u64 0), .c (.int .u64 0), .c (.int .u64 0), .c (.int .u64 0), .c (.int .u64 0), .c (.int .u64 0), .c (.int .u64 0), .c (.int .u64 0), .c (.int .u64 0), .c (.int .u64 0), .c (.int .u64 0), .c (.int .u64 0), .c (.int .u64 0), .c (.int .u64 0), .c (.int .u64 0), .c (.int .u64 0), .c (.int .u64 0), .c (.int .u64 0), .c (.int .u64 0), .c (.int .u64 0), .c (.int .u64 0), .c (.int .u64 0)] 114), (3, .own (CF p) 164), (226, .own o 114), (230, .own [.n 4 k] 28), (234, .dfd),
 (235, .lp .ready none ⟨43, .any, trOf [(5, .p 3 0), (7, .p 226 0)]⟩ r.1 r.2.1 r.2.2 234)] }
theorem Zo (p q : Pt2) (k i : Nat) (hi : i < 64)  : Sound prog 236 false (qc f117 0) (vS (qf f49 0) p k true ((((i + 1 : Nat) : Int)) - 1) (pc2 q)).aa .normal (vS (qf f49 0) p k true (((i : Nat) : Int) - 1) (pc2 (zF (sP (sP (sP (sP q)))) (qi p (dig k i))))).aa := by
 have hs := p9 (P := prog) (X := qO _) (env := [uq, zS]) ⟨su, wX, tt0⟩ (n := 2) (os := oL [(239, wO 1), (242, rO 2 (i / 16)), (243, rO 3 0), (247, rO 4 (4 * (i % 16))), (249, { ch := 1, hi := fun _ => dig k i }), (291, rO 2 (dig k i)), (292, { ch := 0, hi := fun _ => 0, ru := 8, cs := fun _ => pc2 (qi p (dig k i)) })]) (fb := 236) (rd := false) (c := qc f117 0) (k := 238) (I := vS (qf f49 0) p k true ((((i + 1 : Nat) : Int)) - 1) (pc2 q)) (sk := [0, 1, 3, 4]) (hk := [0, 1, 2, 3, 226, 230, 234, 235]) (lk := [(235, [5, 7])]) (ex := .normal)
  (L := vS (qf f49 0) p k true (IntKind.i64.wrap ((((i + 1 : Nat) : Int) - 1) - 1)) (pc2 (zF (sP (sP (sP (sP q)))) (qi p (dig k i))))) (by kernel_rfl) (ai (show qq (pc2 (qi p (dig k i))) = 36 /\ ((flat (CF p)).drop (0 + dig k i * 36)).take 36 = flat (pc2 (qi p (dig k i))) from ⟨rfl, HB p _ (wY k i)⟩) (ai (show ((dig k i : Nat) : Int) = ((dig k i : Nat) : Int) /\ dig k i < 16 from ⟨rfl, wY k i⟩) (ai (Av k i) (ai (AN i) (ai (show 0 + i / 16 * 1 < 4 from by omega) (ai (AU i hi) (ai (show decide (((((i + 1 : Nat) : Int)) - 1) >= 0) = true from decide_eq_true (by omega)) tt0)))))))
 rw [show IntKind.i64.wrap ((((i + 1 : Nat) : Int) - 1) - 1) = ((i : Nat) : Int) - 1 by rw [qj]; omega] at hs
 exact hs
theorem Zd (p q : Pt2) (k i : Nat) (hi : i < 64) (hd : ((dig k i : Nat) : Int) > 0) : Sound prog 236 false (qc f117 0) (vS (qf f49 0) p k false ((((i + 1 : Nat) : Int)) - 1) (pc2 q)).aa .normal (vS (qf f49 0) p k true (((i : Nat) : Int) - 1) (pc2 (zF (sP (sP (sP (sP q)))) (qi p (dig k i))))).aa := by
 have hs := p9 (P := prog) (X := qO _) (env := [uq, zS]) ⟨su, wX, tt0⟩ (n := 2) (os := oL [(239, wO 1), (242, rO 2 (i / 16)), (243, rO 3 0), (247, rO 4 (4 * (i % 16))), (249, { ch := 1, hi := fun _ => dig k i }), (254, wO 1), (291, rO 2 (dig k i)), (292, { ch := 0, hi := fun _ => 0, ru := 8, cs := fun _ => pc2 (qi p (dig k i)) })]) (fb := 236) (rd := false) (c := qc f117 0) (k := 238) (I := vS (qf f49 0) p k false ((((i + 1 : Nat) : Int)) - 1) (pc2 q)) (sk := [0, 1, 3, 4]) (hk := [0, 1, 2, 3, 226, 230, 234, 235]) (lk := [(235, [5, 7])]) (ex := .normal)
  (L := vS (qf f49 0) p k true (IntKind.i64.wrap ((((i + 1 : Nat) : Int) - 1) - 1)) (pc2 (zF (sP (sP (sP (sP q)))) (qi p (dig k i))))) (by kernel_rfl) (ai (show qq (pc2 (qi p (dig k i))) = 36 /\ ((flat (CF p)).drop (0 + dig k i * 36)).take 36 = flat (pc2 (qi p (dig k i))) from ⟨rfl, HB p _ (wY k i)⟩) (ai (show ((dig k i : Nat) : Int) = ((dig k i : Nat) : Int) /\ dig k i < 16 from ⟨rfl, wY k i⟩) (ai (show decide (((dig k i : Nat) : Int) > 0) = true from decide_eq_true hd) (ai (Av k i) (ai (AN i) (ai (show 0 + i / 16 * 1 < 4 from by omega) (ai (AU i hi) (ai (show decide (((((i + 1 : Nat) : Int)) - 1) >= 0) = true from decide_eq_true (by omega)) tt0))))))))
 rw [show IntKind.i64.wrap ((((i + 1 : Nat) : Int) - 1) - 1) = ((i : Nat) : Int) - 1 by rw [qj]; omega] at hs
 exact hs
theorem aaf (p q : Pt2) (k i : Nat) (hi : i < 64) (hd : ¬ ((dig k i : Nat) : Int) > 0) : Sound prog 236 false (qc f117 0) (vS (qf f49 0) p k false ((((i + 1 : Nat) : Int)) - 1) (pc2 q)).aa .normal (vS (qf f49 0) p k false (((i : Nat) : Int) - 1) (pc2 q)).aa := by
 have hs := p9 (P := prog) (X := qO _) (env := [uq, zS]) ⟨su, wX, tt0⟩ (n := 2) (os := oL [(239, wO 1), (242, rO 2 (i / 16)), (243, rO 3 0), (247, rO 4 (4 * (i % 16))), (249, { ch := 1, hi := fun _ => dig k i }), (254, wO 2)]) (fb := 236) (rd := false) (c := qc f117 0) (k := 238) (I := vS (qf f49 0) p k false ((((i + 1 : Nat) : Int)) - 1) (pc2 q)) (sk := [0, 1, 3, 4]) (hk := [0, 1, 2, 3, 226, 230, 234, 235]) (lk := [(235, [5, 7])]) (ex := .normal)
  (L := vS (qf f49 0) p k false (IntKind.i64.wrap ((((i + 1 : Nat) : Int) - 1) - 1)) (pc2 q)) (by kernel_rfl) (ai (show decide (((dig k i : Nat) : Int) > 0) = false from decide_eq_false hd) (ai (Av k i) (ai (AN i) (ai (show 0 + i / 16 * 1 < 4 from by omega) (ai (AU i hi) (ai (show decide (((((i + 1 : Nat) : Int)) - 1) >= 0) = true from decide_eq_true (by omega)) tt0))))))
 rw [show IntKind.i64.wrap ((((i + 1 : Nat) : Int) - 1) - 1) = ((i : Nat) : Int) - 1 by rw [qj]; omega] at hs
 exact hs
theorem Ud (p q : Pt2) (k : Nat) (b : Bool) : Sound prog 236 false (qc f117 0) (vS (qf f49 0) p k b (((0 : Nat) : Int) - 1) (pc2 q)).aa (.exit 0) (Qh (qf f49 0) p k (pc2 q)).aa :=
 p9 (P := prog) (X := qO _) (env := []) trivial (n := 2) (os := oL [(239, wO 2)]) (fb := 236) (rd := false) (c := qc f117 0) (k := 238) (I := vS (qf f49 0) p k b (((0 : Nat) : Int) - 1) (pc2 q)) (sk := []) (hk := [0, 1, 2, 3, 226, 230, 234, 235]) (lk := [(235, [5, 7])]) (ex := .exit 0)
  (L := Qh (qf f49 0) p k (pc2 q)) (by kernel_rfl) Oo.down
theorem Sb (p : Pt2) (k : Nat) (hk : k < 115792089237316195423570985008687907853269984665640564039457584007913129639936) (y : { i : Nat // i <= 64 }) : Sound prog 236 false (.loop (qc f117 0)) (vS (qf f49 0) p k (bgn k (64 - y.val)) (((y.val : Nat) : Int) - 1) (pc2 (xY p k (64 - y.val)))).aa (.exit 0) (Qh (qf f49 0) p k (pc2 (xY p k 64))).aa := by
 refine qw (m := fun y : { i : Nat // i <= 64 } => y.val) (fun y => vS (qf f49 0) p k (bgn k (64 - y.val)) (((y.val : Nat) : Int) - 1) (pc2 (xY p k (64 - y.val)))) (by simp) (fun y => ?_) y
 obtain ⟨i, hi⟩ := y
 cases i with
 | zero => exact .inr (Ud p _ k _)
 | succ i =>
  refine .inl ⟨⟨i, by omega⟩, Nat.lt_succ_self i, ?_⟩
  have e1 : 64 - i = (64 - (i + 1)) + 1 := by omega
  have e2 : 63 - (64 - (i + 1)) = i := by omega
  have hb := CP k (64 - (i + 1)) (by omega)
  rw [e2, ← e1] at hb
  have hm : xY p k (64 - i) = zF (sP (sP (sP (sP (xY p k (64 - (i + 1))))))) (qi p (dig k i)) := by
   rw [e1]
   show zF _ (qi p (dig k (63 - (64 - (i + 1))))) = _
   rw [e2]
  simp only
  rw [hm]
  cases hc : bgn k (64 - (i + 1)) with
  | true =>
   rw [hc] at hb
   simp only [Bool.true_or] at hb
   rw [hb]
   exact Zo p _ k i (by omega)
  | false =>
   rw [hc] at hb
   simp only [Bool.false_or] at hb
   by_cases hd : ((dig k i : Nat) : Int) > 0
   ·rw [hb, decide_eq_true (by omega)]
    exact Zd p _ k i (by omega) hd
   ·have h0 : dig k i = 0 := by omega
    rw [hb, decide_eq_false (by omega)]
    have hn := DJ p k (64 - (i + 1)) (FH hk _ (by omega) hc)
    rw [hn, h0, uu _ rfl, uu _ rfl, uu _ rfl, uu _ rfl, GM _ _ rfl]
    exact aaf p _ k i (by omega) hd
theorem Ub (p : Pt2) (k : Nat) (hk : k < 115792089237316195423570985008687907853269984665640564039457584007913129639936) : Sound prog 236 false (.loop (qc f117 0)) (vS (qf f49 0) p k false 63 [.m p.1.1, .m p.1.2, .m p.2.1.1, .m p.2.1.2, .c (.int .u64 0), .c (.int .u64 0), .c (.int .u64 0), .c (.int .u64 0), .c (.int .u64 0), .c (.int .u64 0), .c (.int .u64 0), .c (.int .u64 0), .c (.int .u64 0), .c (.int .u64 0), .c (.int .u64 0), .c (.int .u64 0)]).aa (.exit 0) (Qh (qf f49 0) p k (pc2 (xY p k 64))).aa := by
 have hl := Sb p k hk ⟨64, Nat.le_refl _⟩
 simp only [Nat.sub_self, GS hk] at hl
 refine Sound.pre (J := vS (qf f49 0) p k false (((64 : Nat) : Int) - 1) (pc2 (xY p k 0))) hl [] (by kernel_rfl) ?_
 have e0 : flat [.m p.1.1, .m p.1.2, .m p.2.1.1, .m p.2.1.2, .c (.int .u64 0), .c (.int .u64 0), .c (.int .u64 0), .c (.int .u64 0), .c (.int .u64 0), .c (.int .u64 0), .c (.int .u64 0), .c (.int .u64 0), .c (.int .u64 0), .c (.int .u64 0), .c (.int .u64 0), .c (.int .u64 0)] = flat (pc2 (xY p k 0)) := by
  symm
  show flat ([.m p.1.1, .m p.1.2, .m p.2.1.1, .m p.2.1.2] ++ m2 ((0, 0) : F2)) = flat ([.m p.1.1, .m p.1.2, .m p.2.1.1, .m p.2.1.2] ++ [.c (.int .u64 0), .c (.int .u64 0), .c (.int .u64 0), .c (.int .u64 0), .c (.int .u64 0), .c (.int .u64 0), .c (.int .u64 0), .c (.int .u64 0), .c (.int .u64 0), .c (.int .u64 0), .c (.int .u64 0), .c (.int .u64 0)])
  rw [qm, qm, zM]
 exact ⟨⟨rfl, rr0, rfl, rfl, tt0⟩, ⟨rr0, rr0, rr0, rr0, ⟨rfl, e0⟩, rr0, tt0, ⟨⟨rfl, rfl, rfl, rfl, rfl, rfl, rfl⟩, vQ (by kernel_rfl)⟩, tt0⟩⟩
abbrev N1 (p : Pt2) : List Ch := [.m p.1.1, .m p.1.2, .m p.2.1.1, .m p.2.1.2, .c (.int .u64 0), .c (.int .u64 0), .c (.int .u64 0), .c (.int .u64 0), .c (.int .u64 0), .c (.int .u64 0), .c (.int .u64 0), .c (.int .u64 0), .c (.int .u64 0), .c (.int .u64 0), .c (.int .u64 0), .c (.int .u64 0)]
theorem acy (p : Pt2) (k : Nat) (hk : Sv k) : Gives prog 49 [.t (.ag (pc2 p)), .t (.ag [.n 4 k])] (.ag (pc2 (xY p k 64))) :=
 p6 (P := prog) (X := qO _) (env := [uq, zS]) ⟨su, wX, tt0⟩ func49 2 (oL [(238, lpO { I := vS (qf f49 0) p k false 63 (N1 p), ex := .exit 0, E := Qh (qf f49 0) p k (pc2 (xY p k 64)), fr := 239, lk := [(235, [5, 7])] })]) (by kernel_rfl) ⟨_, rfl⟩ (ai (show some (vS (qf f49 0) p k false 63 (N1 p)) = some (vS (qf f49 0) p k false 63 (N1 p)) from rfl) (ai (Ub p k hk) tt0))
def GA : Entry := sW 49 F7.x yX.x (fun p k => [(some (k < 115792089237316195423570985008687907853269984665640564039457584007913129639936), .ag (pc2 (xY p k 64)))])
theorem AZ : GA.OK prog := q9 (fun args w => Go.Proofs.enters_of (P := prog) func49 (by kernel_rfl) rfl args w) (fun p k => sd (fun h => acy p k h))
end Go.Proofs.YtokjhbmmdmeafaaGreat
set_option linter.unusedSimpArgs false
set_option linter.unusedVariables false
namespace Go.Proofs.YtokjhbmmdmeafaaGreat
open Go.Ev Go.RowKit
open Tryz
theorem HJ {a b : F2} (e : flat (m2 a) = flat (m2 b)) : a = b := by
 have := xQ [a.1, a.2] [b.1, b.2] rfl e
 simp only [List.cons.injEq, and_true] at this
 exact vq this.1 this.2
abbrev AJ (x : N2) : List Ch := [.q (of2 x).1, .q (of2 x).2]
theorem Uf (x y : N2) (hx : qu x) (hy : qu y) (h : ¬ flat (AJ x) = flat [.n 6 x.1, .n 6 x.2]) : Gives prog 86 [.t (.ag [.n 6 x.1, .n 6 x.2, .n 6 y.1, .n 6 y.2, .c (.bool false)])] (.v (.bool false)) :=
 pX (P := prog) (env := [A5, zU, r8, tc, tO]) ⟨uo, uZ, qX, rk, qK, tt0⟩ func86 1 (oL [(23, wO 1)]) (by kernel_rfl) (ai (show ¬ flat (AJ x) = flat [.n 6 x.1, .n 6 x.2] from h) (ai (show qu y from hy) (ai (show qu x from hx) tt0)))
def Ou {x : N2} (y : N2) (hx : qu x) (hy : qu y) (h : flat [.q (of2 x).1, .q (of2 x).2] = flat [.n 6 x.1, .n 6 x.2]) := PLift.up (ai (show flat (AJ x) = flat [.n 6 x.1, .n 6 x.2] from h) (ai (show qu y from hy) (ai (show qu x from hx) tt0)))
abbrev AP (y : N2) : List Ch := [.q (of2 y).1, .q (of2 y).2]
theorem Ve (x y : N2) (hx : qu x) (hy : qu y) (h : flat (AJ x) = flat [.n 6 x.1, .n 6 x.2]) (h2 : ¬ flat (AP y) = flat [.n 6 y.1, .n 6 y.2]) : Gives prog 86 [.t (.ag [.n 6 x.1, .n 6 x.2, .n 6 y.1, .n 6 y.2, .c (.bool false)])] (.v (.bool false)) :=
 pX (P := prog) (env := [A5, zU, r8, tc, tO]) ⟨uo, uZ, qX, rk, qK, tt0⟩ func86 1 (oL [(23, wO 0), (29, wO 1)]) (by kernel_rfl) (ai (show ¬ flat (AP y) = flat [.n 6 y.1, .n 6 y.2] from h2)
   (Ou y hx hy h).down)
abbrev LC (x : N2) := q6 (qh (qh (of2 x) (of2 x)) (of2 x)) (ofP (4 % 18446744073709551616), ofP (4 % 18446744073709551616))
theorem TN (x y : N2) (hx : qu x) (hy : qu y) (h : flat (AJ x) = flat [.n 6 x.1, .n 6 x.2]) (h2 : flat (AP y) = flat [.n 6 y.1, .n 6 y.2]) (h3 : ¬ flat (m2 (qh (of2 y) (of2 y))) = flat (m2 (LC x))) : Gives prog 86 [.t (.ag [.n 6 x.1, .n 6 x.2, .n 6 y.1, .n 6 y.2, .c (.bool false)])] (.v (.bool false)) :=
 pX (P := prog) (env := [A5, zU, r8, tc, tO]) ⟨uo, uZ, qX, rk, qK, tt0⟩ func86 1 (oL [(23, wO 0), (29, wO 0), (42, wO 1)]) (by kernel_rfl) (ai (show ¬ flat (m2 (qh (of2 y) (of2 y))) = flat (m2 (LC x)) from h3) (ai (show flat (AP y) = flat [.n 6 y.1, .n 6 y.2] from h2)
   (Ou y hx hy h).down))
theorem YS (x y : N2) (hx : qu x) (hy : qu y) (h : flat (AJ x) = flat [.n 6 x.1, .n 6 x.2]) (h2 : flat (AP y) = flat [.n 6 y.1, .n 6 y.2]) (h3 : flat (m2 (qh (of2 y) (of2 y))) = flat (m2 (LC x))) : Gives prog 86 [.t (.ag [.n 6 x.1, .n 6 x.2, .n 6 y.1, .n 6 y.2, .c (.bool false)])] (.v (.bool true)) :=
 pX (P := prog) (env := [A5, zU, r8, tc, tO]) ⟨uo, uZ, qX, rk, qK, tt0⟩ func86 1 (oL [(23, wO 0), (29, wO 0), (42, wO 0)]) (by kernel_rfl) (ai (show flat (m2 (qh (of2 y) (of2 y))) = flat (m2 (LC x)) from h3) (ai (show flat (AP y) = flat [.n 6 y.1, .n 6 y.2] from h2)
   (Ou y hx hy h).down))
abbrev KT : List Ch := [.c (.int .u64 0), .c (.int .u64 0), .c (.int .u64 0), .c (.int .u64 0), .c (.int .u64 0), .c (.int .u64 0), .c (.int .u64 0), .c (.int .u64 0), .c (.int .u64 0), .c (.int .u64 0), .c (.int .u64 0), .c (.int .u64 0), .c (.int .u64 0), .c (.int .u64 0), .c (.int .u64 0), .c (.int .u64 0), .c (.int .u64 0), .c (.int .u64 0), .c (.int .u64 0), .c (.int .u64 0), .c (.int .u64 0), .c (.int .u64 0), .c (.int .u64 0), .c (.int .u64 0), .c (.bool true)]
abbrev Fo (x : N2) (y : N2) : List Ch := [.n 6 x.1, .n 6 x.2, .n 6 y.1, .n 6 y.2, .c (.bool true)]
theorem T8 (x y : N2) (h : flat (Fo x y) = flat KT) : Gives prog 86 [.t (.ag [.n 6 x.1, .n 6 x.2, .n 6 y.1, .n 6 y.2, .c (.bool true)])] (.v (.bool true)) :=
 pX (P := prog) (env := [A5, zU, r8, tc, tO]) ⟨uo, uZ, qX, rk, qK, tt0⟩ func86 1 (oL [(6, wO 0)]) (by kernel_rfl) (ai (show flat (Fo x y) = flat KT from h) tt0)
theorem T9 (x y : N2) (h : ¬ flat (Fo x y) = flat KT) : Gives prog 86 [.t (.ag [.n 6 x.1, .n 6 x.2, .n 6 y.1, .n 6 y.2, .c (.bool true)])] (.v (.bool false)) :=
 pX (P := prog) (env := [A5, zU, r8, tc, tO]) ⟨uo, uZ, qX, rk, qK, tt0⟩ func86 1 (oL [(6, wO 1)]) (by kernel_rfl) (ai (show ¬ flat (Fo x y) = flat KT from h) tt0)
theorem Dh (x y : N2) : flat (m2 (qh (of2 y) (of2 y))) = flat (m2 (q6 (qh (qh (of2 x) (of2 x)) (of2 x)) (ofP (4 % 18446744073709551616), ofP (4 % 18446744073709551616)))) ↔ qh (of2 y) (of2 y) = se (of2 x) := by
 rw [show (4 % 18446744073709551616 : Nat) = 4 from rfl]
 unfold se
 exact ⟨fun e => HJ e, fun e => by rw [e]⟩
theorem TJ (a : A2) (hs : sml2 a) (h : may2 a) : Gives prog 86 [.t (.ag [.n 6 a.1.1, .n 6 a.1.2, .n 6 a.2.1.1, .n 6 a.2.1.2, .c (.bool a.2.2)])] (.v (.bool true)) := by
 obtain ⟨x, y, b⟩ := a
 obtain ⟨hx, hy⟩ := hs
 cases b with
 | true => exact T8 x y ((DL hx hy true).2 (by simpa only [may2, if_true] using h))
 | false =>
  have h : is2 x /\ is2 y /\ qh (of2 y) (of2 y) = se (of2 x) := h
  exact YS x y hx hy ((vk hx).2 h.1) ((vk hy).2 h.2.1) ((Dh x y).2 h.2.2)
theorem SJ (a : A2) (hs : sml2 a) (h : ¬ may2 a) : Gives prog 86 [.t (.ag [.n 6 a.1.1, .n 6 a.1.2, .n 6 a.2.1.1, .n 6 a.2.1.2, .c (.bool a.2.2)])] (.v (.bool false)) := by
 obtain ⟨x, y, b⟩ := a
 obtain ⟨hx, hy⟩ := hs
 cases b with
 | true => exact T9 x y (fun e => h (by simpa only [may2, if_true] using (DL hx hy true).1 e))
 | false =>
  have h : ¬ (is2 x /\ is2 y /\ qh (of2 y) (of2 y) = se (of2 x)) := h
  by_cases h1 : is2 x
  ·by_cases h2 : is2 y
   ·exact TN x y hx hy ((vk hx).2 h1) ((vk hy).2 h2) (fun e => h ⟨h1, h2, (Dh x y).1 e⟩)
   ·exact Ve x y hx hy ((vk hx).2 h1) (fun e => h2 ((vk hy).1 e))
  ·exact Uf x y hx hy (fun e => h1 ((vk hx).1 e))
def KG (a : A2) : uF := [(some (sml2 a /\ may2 a), .v (.bool true)), (some (sml2 a /\ ¬ may2 a), .v (.bool false))]
theorem HX {f : FuncId} {args : A2 -> List XV} (h1 : ∀ a, sml2 a -> may2 a -> Gives prog f (args a) (.v (.bool true))) (h2 : ∀ a, sml2 a -> ¬ may2 a -> Gives prog f (args a) (.v (.bool false))) : ∀ a c r, (c, r) ∈ KG a -> c.getD True -> Gives prog f (args a) r := by
 intro a c r hm hc
 simp only [KG, List.mem_cons, pi0, List.not_mem_nil, or_false] at hm
 rcases hm with ⟨rfl, rfl⟩ | ⟨rfl, rfl⟩
 ·exact h1 a hc.1 hc.2
 ·exact h2 a hc.1 hc.2
def Xa : Entry := ql 86 GL.x KG
theorem Ls : Xa.OK prog := qb (fun args w => Go.Proofs.enters_of (P := prog) func86 (by kernel_rfl) rfl args w) (HX TJ SJ)
def F5 (a : A2) (hs : sml2 a) (h : may2 a) := PLift.up (ai (show sml2 a /\ may2 a from ⟨hs, h⟩) tt0)
theorem PE (a : A2) (hs : sml2 a) (h : may2 a) : Gives prog 47 [.t (.ag [.n 6 a.1.1, .n 6 a.1.2, .n 6 a.2.1.1, .n 6 a.2.1.2, .c (.bool a.2.2)])] (.v (.bool true)) :=
 pX (P := prog) (env := [Xa]) ⟨Ls, tt0⟩ func47 0 (oL [(3, wO 0)]) (by kernel_rfl) (F5 a hs h).down
theorem Pd (a : A2) (hs : sml2 a) (h : ¬ may2 a) : Gives prog 47 [.t (.ag [.n 6 a.1.1, .n 6 a.1.2, .n 6 a.2.1.1, .n 6 a.2.1.2, .c (.bool a.2.2)])] (.v (.bool false)) :=
 pX (P := prog) (env := [Xa]) ⟨Ls, tt0⟩ func47 0 (oL [(3, wO 1)]) (by kernel_rfl) (ai (show sml2 a /\ ¬ may2 a from ⟨hs, h⟩) tt0)
def Bh : Entry := ql 47 GL.x KG
theorem xS : Bh.OK prog := qb (fun args w => Go.Proofs.enters_of (P := prog) func47 (by kernel_rfl) rfl args w) (HX PE Pd)
theorem S6 (x y : N2) : Gives prog 48 [.t (.ag [.n 6 x.1, .n 6 x.2, .n 6 y.1, .n 6 y.2, .c (.bool true)])] (.ag [.m (ofP (1 % 18446744073709551616)), .c (.int .u64 0), .c (.int .u64 0), .c (.int .u64 0), .c (.int .u64 0), .c (.int .u64 0), .c (.int .u64 0), .m (ofP (1 % 18446744073709551616)), .c (.int .u64 0), .c (.int .u64 0), .c (.int .u64 0), .c (.int .u64 0), .c (.int .u64 0), .c (.int .u64 0), .c (.int .u64 0), .c (.int .u64 0), .c (.int .u64 0), .c (.int .u64 0), .c (.int .u64 0), .c (.int .u64 0), .c (.int .u64 0), .c (.int .u64 0), .c (.int .u64 0), .c (.int .u64 0), .c (.int .u64 0), .c (.int .u64 0)]) :=
 pX (P := prog) (env := [A5, tO]) ⟨uo, qK, tt0⟩ func48 0 (oL []) (by kernel_rfl) trivial
theorem Vj (x y : N2) (hx : qu x) (hy : qu y) : Gives prog 48 [.t (.ag [.n 6 x.1, .n 6 x.2, .n 6 y.1, .n 6 y.2, .c (.bool false)])] (.ag [.m (of2 x).1, .m (of2 x).2, .m (of2 y).1, .m (of2 y).2, .m (ofP (1 % 18446744073709551616)), .c (.int .u64 0), .c (.int .u64 0), .c (.int .u64 0), .c (.int .u64 0), .c (.int .u64 0), .c (.int .u64 0)]) :=
 pX (P := prog) (env := [A5, tO]) ⟨uo, qK, tt0⟩ func48 0 (oL []) (by kernel_rfl) (ai (show qu y from hy) (ai (show qu x from hx) tt0))
theorem QV (x y : N2) : in2 (x, y, false) = (of2 x, of2 y, (1, 0)) := by unfold in2; exact if_neg (by simp)
theorem RX (x y : N2) : in2 (x, y, true) = ((1, 0), (1, 0), (0, 0)) := by unfold in2; exact if_pos rfl
theorem RV : flat [.m (ofP (1 % 18446744073709551616)), .c (.int .u64 0), .c (.int .u64 0), .c (.int .u64 0), .c (.int .u64 0), .c (.int .u64 0), .c (.int .u64 0)] = flat [.m (1 : Fin Pp), .m 0] := by kernel_rfl
theorem WW : flat [.c (.int .u64 0), .c (.int .u64 0), .c (.int .u64 0), .c (.int .u64 0), .c (.int .u64 0), .c (.int .u64 0), .c (.int .u64 0), .c (.int .u64 0), .c (.int .u64 0), .c (.int .u64 0), .c (.int .u64 0), .c (.int .u64 0)] = flat [.m (0 : Fin Pp), .m 0] := by kernel_rfl
theorem NA (x y : F2) : flat [.m x.1, .m x.2, .m y.1, .m y.2, .m (ofP (1 % 18446744073709551616)), .c (.int .u64 0), .c (.int .u64 0), .c (.int .u64 0), .c (.int .u64 0), .c (.int .u64 0), .c (.int .u64 0)] = flat (pc2 (x, y, (1, 0))) := by
 show flat ([.m x.1, .m x.2, .m y.1, .m y.2] ++ [.m (ofP (1 % 18446744073709551616)), .c (.int .u64 0), .c (.int .u64 0), .c (.int .u64 0), .c (.int .u64 0), .c (.int .u64 0), .c (.int .u64 0)]) = flat ([.m x.1, .m x.2, .m y.1, .m y.2] ++ [.m (1 : Fin Pp), .m 0])
 rw [qm, qm, RV]
theorem MB : flat [.m (ofP (1 % 18446744073709551616)), .c (.int .u64 0), .c (.int .u64 0), .c (.int .u64 0), .c (.int .u64 0), .c (.int .u64 0), .c (.int .u64 0), .m (ofP (1 % 18446744073709551616)), .c (.int .u64 0), .c (.int .u64 0), .c (.int .u64 0), .c (.int .u64 0), .c (.int .u64 0), .c (.int .u64 0), .c (.int .u64 0), .c (.int .u64 0), .c (.int .u64 0), .c (.int .u64 0), .c (.int .u64 0), .c (.int .u64 0), .c (.int .u64 0), .c (.int .u64 0), .c (.int .u64 0), .c (.int .u64 0), .c (.int .u64 0), .c (.int .u64 0)] = flat (pc2 ((1, 0), (1, 0), (0, 0))) := by
 show flat ([.m (ofP (1 % 18446744073709551616)), .c (.int .u64 0), .c (.int .u64 0), .c (.int .u64 0), .c (.int .u64 0), .c (.int .u64 0), .c (.int .u64 0)] ++ ([.m (ofP (1 % 18446744073709551616)), .c (.int .u64 0), .c (.int .u64 0), .c (.int .u64 0), .c (.int .u64 0), .c (.int .u64 0), .c (.int .u64 0)] ++ [.c (.int .u64 0), .c (.int .u64 0), .c (.int .u64 0), .c (.int .u64 0), .c (.int .u64 0), .c (.int .u64 0), .c (.int .u64 0), .c (.int .u64 0), .c (.int .u64 0), .c (.int .u64 0), .c (.int .u64 0), .c (.int .u64 0)])) = flat ([.m (1 : Fin Pp), .m 0] ++ ([.m (1 : Fin Pp), .m 0] ++ [.m (0 : Fin Pp), .m 0]))
 simp only [qm]
 rw [RV, WW]
theorem acM (a : A2) (hs : sml2 a) : Gives prog 48 [.t (.ag [.n 6 a.1.1, .n 6 a.1.2, .n 6 a.2.1.1, .n 6 a.2.1.2, .c (.bool a.2.2)])] (.ag (pc2 (in2 a))) := by
 obtain ⟨x, y, b⟩ := a
 obtain ⟨hx, hy⟩ := hs
 cases b with
 | true => rw [RX x y]; exact Gives.same (S6 x y) (rK rfl rfl MB).symm
 | false => rw [QV x y]; exact Gives.same (Vj x y hx hy) (rK rfl rfl (NA _ _)).symm
def KF : Entry := ql 48 GL.x (fun a => [(some (sml2 a), .ag (pc2 (in2 a)))])
theorem CZ : KF.OK prog := qb (fun args w => Go.Proofs.enters_of (P := prog) func48 (by kernel_rfl) rfl args w) (fun a => sd (fun h => acM a h))
def Uz : Entry := y8 50 [(none, .ag [.c (.int .u64 18446744069414584321), .c (.int .u64 6034159408538082302), .c (.int .u64 3691218898639771653), .c (.int .u64 8353516859464449352)])]
theorem FL : Uz.OK prog := wh (fun args w => Go.Proofs.enters_of (P := prog) func50 (by kernel_rfl) rfl args w)
 (only (pX (P := prog) (env := []) trivial func50 0 o0 (by kernel_rfl) tt0))
theorem Qs (a : A2) (hs : sml2 a) (h : may2 a) (g : rm a) : Gives prog 21 [.t (.ag [.n 6 a.1.1, .n 6 a.1.2, .n 6 a.2.1.1, .n 6 a.2.1.2, .c (.bool a.2.2)])] (.v (.bool true)) :=
 pX (P := prog) (env := [Bh, KF, Uz, GA, xq]) ⟨xS, CZ, FL, AZ, tg, tt0⟩ func21 0 (oL [(3, wO 0), (10, wO 0)]) (by kernel_rfl) (ai (show (xY (in2 a) Rr 64).2.2 = (0, 0) from g) (ai Ly (ai (show sml2 a from hs)
   (F5 a hs h).down)))
theorem R4 (a : A2) (hs : sml2 a) (h : may2 a) (g : ¬ rm a) : Gives prog 21 [.t (.ag [.n 6 a.1.1, .n 6 a.1.2, .n 6 a.2.1.1, .n 6 a.2.1.2, .c (.bool a.2.2)])] (.v (.bool false)) :=
 pX (P := prog) (env := [Bh, KF, Uz, GA, xq]) ⟨xS, CZ, FL, AZ, tg, tt0⟩ func21 0 (oL [(3, wO 0), (10, wO 1)]) (by kernel_rfl) (ai (show ¬ (xY (in2 a) Rr 64).2.2 = (0, 0) from g) (ai Ly (ai (show sml2 a from hs)
   (F5 a hs h).down)))
theorem UC (a : A2) (hs : sml2 a) (h : ¬ may2 a) : Gives prog 21 [.t (.ag [.n 6 a.1.1, .n 6 a.1.2, .n 6 a.2.1.1, .n 6 a.2.1.2, .c (.bool a.2.2)])] (.v (.bool false)) :=
 pX (P := prog) (env := [Bh, KF, Uz, GA, xq]) ⟨xS, CZ, FL, AZ, tg, tt0⟩ func21 0 (oL [(3, wO 1)]) (by kernel_rfl) (ai (show sml2 a /\ ¬ may2 a from ⟨hs, h⟩) tt0)
def GU : Entry := ql 21 GL.x (fun a => [(some (sml2 a /\ may2 a /\ rm a), .v (.bool true)), (some (sml2 a /\ may2 a /\ ¬ rm a), .v (.bool false)), (some (sml2 a /\ ¬ may2 a), .v (.bool false))])
theorem H2 : GU.OK prog := qb (fun args w => Go.Proofs.enters_of (P := prog) func21 (by kernel_rfl) rfl args w) (fun a c r hm hc => by
 simp only [List.mem_cons, pi0, List.not_mem_nil, or_false] at hm
 rcases hm with ⟨rfl, rfl⟩ | ⟨rfl, rfl⟩ | ⟨rfl, rfl⟩
 ·exact Qs a hc.1 hc.2.1 hc.2.2
 ·exact R4 a hc.1 hc.2.1 hc.2.2
 ·exact UC a hc.1 hc.2)
end Go.Proofs.YtokjhbmmdmeafaaGreat
set_option linter.unusedSimpArgs false
set_option linter.unusedVariables false
namespace Go.Proofs.YtokjhbmmdmeafaaGreat
open Go.Ev Go.RowKit
open Tryz
theorem Ng (a : N2) (h : qu a) : Gives prog 116 [.t (.ag [.n 6 a.1, .n 6 a.2])] (.v (.string (ofL (b2 (of2 a))))) :=
 p6 (P := prog) (X := qO _) (env := [E3]) ⟨Ec, tt0⟩ func116 0 (oL [(8, { ch := 0, hi := fun _ => 0, ru := 6 })]) (by kernel_rfl) ⟨_, rfl⟩ (ai (show 48 + 48 <= 9223372036854775807 by decide) (ai (show DG (.inr a.1) from h.1) (ai (show DG (.inr a.2) from h.2) tt0)))
def Ji : Entry := ql 116 KA.x (fun a => [(some (qu a), .v (.string (ofL (b2 (of2 a)))))])
theorem Me : Ji.OK prog := qb (fun args w => Go.Proofs.enters_of (P := prog) func116 (by kernel_rfl) rfl args w) (fun a => sd (fun h => Ng a h))
theorem LI : 0 < 96 /\ 96 <= 1000 := by decide
def Ww (x : N2) (y : N2) (hx : qu x) (hy : qu y) (hr : may2 (x, y, false)) (hg : rm (x, y, false)) := PLift.up (ai (show qu y from hy) (ai (show qu y from hy) (ai (show qu x from hx) (ai (show sml2 (x, y, false) /\ may2 (x, y, false) /\ rm (x, y, false) from ⟨⟨hx, hy⟩, hr, hg⟩) (ai (show sml2 (x, y, false) /\ may2 (x, y, false) from ⟨⟨hx, hy⟩, hr⟩) tt0)))))
theorem Ag {a : List XV} {r : AV} {b : Prop} (o : Nat -> Ora) (h : fnA prog (qO _) [Bh, GU, Ji, A5, A9, Hz] 2 o f46 a = some (r, b)) (hv : ∃ v, r.val? = some v) (hb : b) : Gives prog 46 a r := p6 (P := prog) (X := qO _) (env := [Bh, GU, Ji, A5, A9, Hz]) ⟨xS, H2, Me, uo, yE, GR, tt0⟩ func46 2 o h hv hb
theorem SH (x y : N2) (hx : qu x) (hy : qu y) (hr : may2 (x, y, false)) (hg : rm (x, y, false)) (hh : ¬ hi2 (of2 y)) : Gives prog 46 [.t (.ag [.n 6 x.1, .n 6 x.2, .n 6 y.1, .n 6 y.2, .c (.bool false)])] (.tp [.v (.string (ofL (yl (b2 (of2 x)) (tz false false true)))), vi0 0]) :=
 Ag EU (by kernel_rfl) ⟨_, rfl⟩ (ai LI (ai (show ¬ hi2 (of2 y) from hh)
   (Ww x y hx hy hr hg).down))
theorem SM (x y : N2) (hx : qu x) (hy : qu y) (hr : may2 (x, y, false)) (hg : rm (x, y, false)) (hh : hi2 (of2 y)) : Gives prog 46 [.t (.ag [.n 6 x.1, .n 6 x.2, .n 6 y.1, .n 6 y.2, .c (.bool false)])] (.tp [.v (.string (ofL (yl (b2 (of2 x)) (tz false true true)))), vi0 0]) :=
 Ag Gn (by kernel_rfl) ⟨_, rfl⟩ (ai LI (ai (show hi2 (of2 y) from hh)
   (Ww x y hx hy hr hg).down))
def V7 (x : N2) (y : N2) (hx : qu x) (hy : qu y) (hr : may2 (x, y, true)) (hg : rm (x, y, true)) := PLift.up (ai (show qu y from hy) (ai (show qu y from hy) (ai (show qu x from hx) (ai (show sml2 (x, y, true) /\ may2 (x, y, true) /\ rm (x, y, true) from ⟨⟨hx, hy⟩, hr, hg⟩) (ai (show sml2 (x, y, true) /\ may2 (x, y, true) from ⟨⟨hx, hy⟩, hr⟩) tt0)))))
theorem TE (x y : N2) (hx : qu x) (hy : qu y) (hr : may2 (x, y, true)) (hg : rm (x, y, true)) (hh : ¬ hi2 (of2 y)) : Gives prog 46 [.t (.ag [.n 6 x.1, .n 6 x.2, .n 6 y.1, .n 6 y.2, .c (.bool true)])] (.tp [.v (.string (ofL (yl (b2 (of2 x)) (tz true false true)))), vi0 0]) :=
 Ag EU (by kernel_rfl) ⟨_, rfl⟩ (ai LI (ai (show ¬ hi2 (of2 y) from hh)
   (V7 x y hx hy hr hg).down))
theorem UW (x y : N2) (hx : qu x) (hy : qu y) (hr : may2 (x, y, true)) (hg : rm (x, y, true)) (hh : hi2 (of2 y)) : Gives prog 46 [.t (.ag [.n 6 x.1, .n 6 x.2, .n 6 y.1, .n 6 y.2, .c (.bool true)])] (.tp [.v (.string (ofL (yl (b2 (of2 x)) (tz true true true)))), vi0 0]) :=
 Ag Gn (by kernel_rfl) ⟨_, rfl⟩ (ai LI (ai (show hi2 (of2 y) from hh)
   (V7 x y hx hy hr hg).down))
theorem QU (a : A2) (hs : sml2 a) (h : ¬ may2 a) : Gives prog 46 [.t (.ag [.n 6 a.1.1, .n 6 a.1.2, .n 6 a.2.1.1, .n 6 a.2.1.2, .c (.bool a.2.2)])] (.tp [.v (.string (ofL [])), vi0 30]) :=
 Ag (oL [(9, wO 1)]) (by kernel_rfl) ⟨_, rfl⟩ (ai (show sml2 a /\ ¬ may2 a from ⟨hs, h⟩) tt0)
theorem QZ (a : A2) (hs : sml2 a) (h : may2 a) (g : ¬ rm a) : Gives prog 46 [.t (.ag [.n 6 a.1.1, .n 6 a.1.2, .n 6 a.2.1.1, .n 6 a.2.1.2, .c (.bool a.2.2)])] (.tp [.v (.string (ofL [])), vi0 31]) :=
 Ag (oL [(9, wO 0), (13, wO 1)]) (by kernel_rfl) ⟨_, rfl⟩ (ai (show sml2 a /\ may2 a /\ ¬ rm a from ⟨hs, h, g⟩) (F5 a hs h).down)
theorem Va (a : A2) (hs : sml2 a) (h : may2 a) (g : rm a) : Gives prog 46 [.t (.ag [.n 6 a.1.1, .n 6 a.1.2, .n 6 a.2.1.1, .n 6 a.2.1.2, .c (.bool a.2.2)])] (.tp [.v (.string (ofL (putL2 (of2 a.1) (of2 a.2.1) a.2.2 true))), vi0 0]) := by
 obtain ⟨x, y, b⟩ := a
 unfold putL2
 cases b <;> by_cases hh : hi2 (of2 y)
 ·rw [show decide (hi2 (of2 (x, y, false).2.1)) = true from decide_eq_true hh]; exact SM x y hs.1 hs.2 h g hh
 ·rw [show decide (hi2 (of2 (x, y, false).2.1)) = false from decide_eq_false hh]; exact SH x y hs.1 hs.2 h g hh
 ·rw [show decide (hi2 (of2 (x, y, true).2.1)) = true from decide_eq_true hh]; exact UW x y hs.1 hs.2 h g hh
 ·rw [show decide (hi2 (of2 (x, y, true).2.1)) = false from decide_eq_false hh]; exact TE x y hs.1 hs.2 h g hh
end Go.Proofs.YtokjhbmmdmeafaaGreat
