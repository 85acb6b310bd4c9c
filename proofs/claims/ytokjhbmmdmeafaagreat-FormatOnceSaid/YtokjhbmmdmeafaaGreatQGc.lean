/- Pruned: Gc. -/
import Derived.Test.YtokjhbmmdmeafaaGreatQGb
import Derived.Test.YtokjhbmmdmeafaaGreatQGr
import Derived.Test.YtokjhbmmdmeafaaGreatQGa
import Derived.Test.YtokjhbmmdmeafaaGreatQHc
import Derived.WalkKit
import Derived.RegionTactic
import Derived.ChangeAlike
import Derived.Laws.BytesString
set_option linter.unusedSimpArgs false
set_option linter.unusedVariables false
namespace Go.Proofs.YtokjhbmmdmeafaaGreat
open Go.Ev Go.RowKit
open Tryz
def pc1 (p : Pt1) : List Ch := [.m (p).1, .m (p).2.1, .m (p).2.2]
def Fs : Par Pt1 := (we.pair (we.pair we))
def yf : Entry := ss
theorem sV : yf.OK prog := rk
theorem Q8 (p : Pt1) (h : p.2.2 = 0) : Gives prog 92 [.t (.ag (pc1 p))] (.ag (pc1 (sr p))) := by
 unfold sr
 rw [if_pos h]
 exact pI (P := prog) (env := [yf, re, rL, qt]) ⟨sV, qj, qH, qb, tt0⟩ func92 0 (oL [(5, wO 0)]) (by kernel_rfl) (ai h tt0)
theorem SI (p : Pt1) (h : p.2.2 ≠ 0) : Gives prog 92 [.t (.ag (pc1 p))] (.ag (pc1 (sr p))) := by
 unfold sr
 rw [if_neg h]
 exact pI (P := prog) (env := [yf, re, rL, qt]) ⟨sV, qj, qH, qb, tt0⟩ func92 0 (oL [(5, wO 1)]) (by kernel_rfl) (ai h tt0)
def tR : Entry := p7 92 Fs.x (fun p => [(none, .ag (pc1 (sr p)))])
theorem r8 : tR.OK prog := pQ (fun args w => Go.Proofs.enters_of (P := prog) func92 (by kernel_rfl) rfl args w) (fun p => only (by
 by_cases h : p.2.2 = 0
 ·exact Q8 p h
 ·exact SI p h))
theorem acM (p q : Pt1) : Gives prog 91 [.t (.ag (pc1 p)), .t (.ag (pc1 q))] (.ag (pc1 (zN p q))) := by
 unfold zN
 by_cases h1 : p.2.2 = 0
 ·rw [if_pos h1]
  exact pI (P := prog) (env := [yf, tR, re, rL, qt]) ⟨sV, r8, qj, qH, qb, tt0⟩ func91 0 (oL [(6, wO 0)]) (by kernel_rfl) (ai h1 tt0)
 ·rw [if_neg h1]
  by_cases h2 : q.2.2 = 0
  ·rw [if_pos h2]
   exact pI (P := prog) (env := [yf, tR, re, rL, qt]) ⟨sV, r8, qj, qH, qb, tt0⟩ func91 0 (oL [(6, wO 1), (11, wO 0)]) (by kernel_rfl) (ai h2 (ai h1 tt0))
  ·rw [if_neg h2]
   by_cases h3 : hP1 p q = 0
   ·rw [if_pos h3]
    by_cases h4 : rP1 p q = 0
    ·rw [if_pos h4]
     exact pI (P := prog) (env := [yf, tR, re, rL, qt]) ⟨sV, r8, qj, qH, qb, tt0⟩ func91 0 (oL [(6, wO 1), (11, wO 1), (79, wO 0), (82, wO 0)]) (by kernel_rfl) (ai h4 (ai h3 (ai h2 (ai h1 tt0))))
    ·rw [if_neg h4]
     refine Gives.same (r := .ag ([.m p.1, .m p.2.1, .c (.int .u64 0), .c (.int .u64 0), .c (.int .u64 0), .c (.int .u64 0), .c (.int .u64 0), .c (.int .u64 0)])) (pI (P := prog) (env := [yf, tR, re, rL, qt]) ⟨sV, r8, qj, qH, qb, tt0⟩ func91 0 (oL [(6, wO 1), (11, wO 1), (79, wO 0), (82, wO 1)]) (by kernel_rfl) (ai h4 (ai h3 (ai h2 (ai h1 tt0))))) (ry rfl rfl ?_)
     show flat ([.m p.1, .m p.2.1] ++ [.m (0 : Fin Pp)]) = flat ([.m p.1, .m p.2.1] ++ [.c (.int .u64 0), .c (.int .u64 0), .c (.int .u64 0), .c (.int .u64 0), .c (.int .u64 0), .c (.int .u64 0)])
     rw [p8, p8, zl]
   ·rw [if_neg h3]
    exact pI (P := prog) (env := [yf, tR, re, rL, qt]) ⟨sV, r8, qj, qH, qb, tt0⟩ func91 0 (oL [(6, wO 1), (11, wO 1), (79, wO 1)]) (by kernel_rfl) (ai h3 (ai h2 (ai h1 tt0)))
def z7 : Entry := sH 91 Fs.x Fs.x (fun p q => [(none, .ag (pc1 (zN p q)))])
theorem wL : z7.OK prog := qS (fun args w => Go.Proofs.enters_of (P := prog) func91 (by kernel_rfl) rfl args w) (fun p q => only (acM p q))
def Cs (p : Pt1) : List Ch := [.m p.1, .m p.2.1, .c (.int .u64 0), .c (.int .u64 0), .c (.int .u64 0), .c (.int .u64 0), .c (.int .u64 0), .c (.int .u64 0), .m (ql p 1).1, .m (ql p 1).2.1, .m (ql p 1).2.2, .m (ql p 2).1, .m (ql p 2).2.1, .m (ql p 2).2.2, .m (ql p 3).1, .m (ql p 3).2.1, .m (ql p 3).2.2, .m (ql p 4).1, .m (ql p 4).2.1, .m (ql p 4).2.2, .m (ql p 5).1, .m (ql p 5).2.1, .m (ql p 5).2.2, .m (ql p 6).1, .m (ql p 6).2.1, .m (ql p 6).2.2, .m (ql p 7).1, .m (ql p 7).2.1, .m (ql p 7).2.2, .m (ql p 8).1, .m (ql p 8).2.1, .m (ql p 8).2.2, .m (ql p 9).1, .m (ql p 9).2.1, .m (ql p 9).2.2, .m (ql p 10).1, .m (ql p 10).2.1, .m (ql p 10).2.2, .m (ql p 11).1, .m (ql p 11).2.1, .m (ql p 11).2.2, .m (ql p 12).1, .m (ql p 12).2.1, .m (ql p 12).2.2, .m (ql p 13).1, .m (ql p 13).2.1, .m (ql p 13).2.2, .m (ql p 14).1, .m (ql p 14).2.1, .m (ql p 14).2.2, .m (ql p 15).1, .m (ql p 15).2.1, .m (ql p 15).2.2]
theorem QJ (p : Pt1) : (flat (pc1 p)).length = 18 := by rw [vk]; rfl
theorem Jw (p : Pt1) : flat (Cs p) = (List.range 16).flatMap (fun j => flat (pc1 (ql p j))) := by
 have e0 : flat (pc1 (ql p 0)) = flat [.m p.1, .m p.2.1, .c (.int .u64 0), .c (.int .u64 0), .c (.int .u64 0), .c (.int .u64 0), .c (.int .u64 0), .c (.int .u64 0)] := by
  show flat ([.m p.1, .m p.2.1] ++ [.m (0 : Fin Pp)]) = flat ([.m p.1, .m p.2.1] ++ [.c (.int .u64 0), .c (.int .u64 0), .c (.int .u64 0), .c (.int .u64 0), .c (.int .u64 0), .c (.int .u64 0)])
  rw [p8, p8, zl]
 have e1 : Cs p = [.m p.1, .m p.2.1, .c (.int .u64 0), .c (.int .u64 0), .c (.int .u64 0), .c (.int .u64 0), .c (.int .u64 0), .c (.int .u64 0)] ++ (pc1 (ql p 1) ++ (pc1 (ql p 2) ++ (pc1 (ql p 3) ++ (pc1 (ql p 4) ++ (pc1 (ql p 5) ++ (pc1 (ql p 6) ++ (pc1 (ql p 7) ++ (pc1 (ql p 8) ++ (pc1 (ql p 9) ++ (pc1 (ql p 10) ++ (pc1 (ql p 11) ++ (pc1 (ql p 12) ++ (pc1 (ql p 13) ++ (pc1 (ql p 14) ++ pc1 (ql p 15))))))))))))))) := rfl
 rw [e1]
 simp only [p8, ← e0]
 simp [List.range_succ_eq_map, List.flatMap]
theorem HO (p : Pt1) (j : Nat) (h : j < 16) : ((flat (Cs p)).drop (0 + j * 18)).take 18 = flat (pc1 (ql p j)) := by
 rw [Nat.zero_add, Jw]
 exact Am (fun j => flat (pc1 (ql p j))) 18 (fun j => QJ _) 16 j h
def vR (r : Array Tmp × Code × Code) (p : Pt1) (k : Nat) (b : Bool) (z : Int) (o : List Ch) : LState := { n := 32, sl := [(0, .yd 235), (1, .p 230 0), (3, .v (.bool b)), (4, vi0 z)], hp := [(0, .own (pc1 p) 119), (1, .own [.n 4 k] 28), (2, .own [.c (.int .u64 0), .c (.int .u64 0), .c (.int .u64 0), .c (.int .u64 0), .c (.int .u64 0), .c (.int .u64 0), .c (.int .u64 0), .c (.int .u64 0), .c (.int .u64 0), .c (.int .u64 0), .c (.int .u64 0), .c (.int .u64 0), .c (.int .u64 0), .c (.int .u64 0), .c (.int .u64 0), .c (.int .u64 0), .c (.int .u64 0), .c (.int .u64 0)] 119), (3, .own (Cs p) 170), (226, .own o 119), (230, .own [.n 4 k] 28), (234, .dfd),
 (235, .lp .ready none ⟨43, .any, trOf [(5, .p 3 0), (7, .p 226 0)]⟩ r.1 r.2.1 r.2.2 234)] }
def PS (r : Array Tmp × Code × Code) (p : Pt1) (k : Nat) (o : List Ch) : LState := { n := 32, sl := [], hp := [(0, .own (pc1 p) 119), (1, .own [.n 4 k] 28), (2, .own [.c (.int .u64 0), .c (.int .u64 0), .c (.int .u64 0), .c (.int .u64 0), .c (.int .u64 0), .c (.int .u64 0), .c (.int .u64 0), .c (.int .u64 0), .c (.int .u64 0), .c (.int .u64 0), .c (.int .u64 0), .c (.int .u64 0), .c (.int .u64 0), .c (.int .u64 0), .c (.int .u64 0), .c (.int .u64 0), .c (.int .u64 0), .c (.int .u64 0)] 119), (3, .own (Cs p) 170), (226, .own o 119), (230, .own [.n 4 k] 28), (234, .dfd),
 (235, .lp .ready none ⟨43, .any, trOf [(5, .p 3 0), (7, .p 226 0)]⟩ r.1 r.2.1 r.2.2 234)] }
theorem acj (p q : Pt1) (k i : Nat) (hi : i < 64)  : Sound prog 236 false (pS f117 0) (vR (pT f54 0) p k true ((((i + 1 : Nat) : Int)) - 1) (pc1 q)).aa .normal (vR (pT f54 0) p k true (((i : Nat) : Int) - 1) (pc1 (zN (sr (sr (sr (sr q)))) (ql p (dig k i))))).aa := by
 have hs := pR (P := prog) (X := qC _) (env := [tR, z7]) ⟨r8, wL, tt0⟩ (n := 2) (os := oL [(239, wO 1), (242, rO 2 (i / 16)), (243, rO 3 0), (247, rO 4 (4 * (i % 16))), (249, { ch := 1, hi := fun _ => dig k i }), (291, rO 2 (dig k i)), (292, { ch := 0, hi := fun _ => 0, ru := 8, cs := fun _ => pc1 (ql p (dig k i)) })]) (fb := 236) (rd := false) (c := pS f117 0) (k := 238) (I := vR (pT f54 0) p k true ((((i + 1 : Nat) : Int)) - 1) (pc1 q)) (sk := [0, 1, 3, 4]) (hk := [0, 1, 2, 3, 226, 230, 234, 235]) (lk := [(235, [5, 7])]) (ex := .normal)
  (L := vR (pT f54 0) p k true (IntKind.i64.wrap ((((i + 1 : Nat) : Int) - 1) - 1)) (pc1 (zN (sr (sr (sr (sr q)))) (ql p (dig k i))))) (by kernel_rfl) (ai (show qd (pc1 (ql p (dig k i))) = 18 /\ ((flat (Cs p)).drop (0 + dig k i * 18)).take 18 = flat (pc1 (ql p (dig k i))) from ⟨rfl, HO p _ (wq k i)⟩) (ai (show ((dig k i : Nat) : Int) = ((dig k i : Nat) : Int) /\ dig k i < 16 from ⟨rfl, wq k i⟩) (ai (Av k i) (ai (Bg i) (ai (show 0 + i / 16 * 1 < 4 from by omega) (ai (Ax i hi) (ai (show decide (((((i + 1 : Nat) : Int)) - 1) >= 0) = true from decide_eq_true (by omega)) tt0)))))))
 rw [show IntKind.i64.wrap ((((i + 1 : Nat) : Int) - 1) - 1) = ((i : Nat) : Int) - 1 by rw [p6]; omega] at hs
 exact hs
theorem abI (p q : Pt1) (k i : Nat) (hi : i < 64) (hd : ((dig k i : Nat) : Int) > 0) : Sound prog 236 false (pS f117 0) (vR (pT f54 0) p k false ((((i + 1 : Nat) : Int)) - 1) (pc1 q)).aa .normal (vR (pT f54 0) p k true (((i : Nat) : Int) - 1) (pc1 (zN (sr (sr (sr (sr q)))) (ql p (dig k i))))).aa := by
 have hs := pR (P := prog) (X := qC _) (env := [tR, z7]) ⟨r8, wL, tt0⟩ (n := 2) (os := oL [(239, wO 1), (242, rO 2 (i / 16)), (243, rO 3 0), (247, rO 4 (4 * (i % 16))), (249, { ch := 1, hi := fun _ => dig k i }), (254, wO 1), (291, rO 2 (dig k i)), (292, { ch := 0, hi := fun _ => 0, ru := 8, cs := fun _ => pc1 (ql p (dig k i)) })]) (fb := 236) (rd := false) (c := pS f117 0) (k := 238) (I := vR (pT f54 0) p k false ((((i + 1 : Nat) : Int)) - 1) (pc1 q)) (sk := [0, 1, 3, 4]) (hk := [0, 1, 2, 3, 226, 230, 234, 235]) (lk := [(235, [5, 7])]) (ex := .normal)
  (L := vR (pT f54 0) p k true (IntKind.i64.wrap ((((i + 1 : Nat) : Int) - 1) - 1)) (pc1 (zN (sr (sr (sr (sr q)))) (ql p (dig k i))))) (by kernel_rfl) (ai (show qd (pc1 (ql p (dig k i))) = 18 /\ ((flat (Cs p)).drop (0 + dig k i * 18)).take 18 = flat (pc1 (ql p (dig k i))) from ⟨rfl, HO p _ (wq k i)⟩) (ai (show ((dig k i : Nat) : Int) = ((dig k i : Nat) : Int) /\ dig k i < 16 from ⟨rfl, wq k i⟩) (ai (show decide (((dig k i : Nat) : Int) > 0) = true from decide_eq_true hd) (ai (Av k i) (ai (Bg i) (ai (show 0 + i / 16 * 1 < 4 from by omega) (ai (Ax i hi) (ai (show decide (((((i + 1 : Nat) : Int)) - 1) >= 0) = true from decide_eq_true (by omega)) tt0))))))))
 rw [show IntKind.i64.wrap ((((i + 1 : Nat) : Int) - 1) - 1) = ((i : Nat) : Int) - 1 by rw [p6]; omega] at hs
 exact hs
theorem aeG (p q : Pt1) (k i : Nat) (hi : i < 64) (hd : ¬ ((dig k i : Nat) : Int) > 0) : Sound prog 236 false (pS f117 0) (vR (pT f54 0) p k false ((((i + 1 : Nat) : Int)) - 1) (pc1 q)).aa .normal (vR (pT f54 0) p k false (((i : Nat) : Int) - 1) (pc1 q)).aa := by
 have hs := pR (P := prog) (X := qC _) (env := [tR, z7]) ⟨r8, wL, tt0⟩ (n := 2) (os := oL [(239, wO 1), (242, rO 2 (i / 16)), (243, rO 3 0), (247, rO 4 (4 * (i % 16))), (249, { ch := 1, hi := fun _ => dig k i }), (254, wO 2)]) (fb := 236) (rd := false) (c := pS f117 0) (k := 238) (I := vR (pT f54 0) p k false ((((i + 1 : Nat) : Int)) - 1) (pc1 q)) (sk := [0, 1, 3, 4]) (hk := [0, 1, 2, 3, 226, 230, 234, 235]) (lk := [(235, [5, 7])]) (ex := .normal)
  (L := vR (pT f54 0) p k false (IntKind.i64.wrap ((((i + 1 : Nat) : Int) - 1) - 1)) (pc1 q)) (by kernel_rfl) (ai (show decide (((dig k i : Nat) : Int) > 0) = false from decide_eq_false hd) (ai (Av k i) (ai (Bg i) (ai (show 0 + i / 16 * 1 < 4 from by omega) (ai (Ax i hi) (ai (show decide (((((i + 1 : Nat) : Int)) - 1) >= 0) = true from decide_eq_true (by omega)) tt0))))))
 rw [show IntKind.i64.wrap ((((i + 1 : Nat) : Int) - 1) - 1) = ((i : Nat) : Int) - 1 by rw [p6]; omega] at hs
 exact hs
def Qq := PLift.up (ai (show decide ((((0 : Nat) : Int) - 1) >= 0) = false from by decide) tt0)
theorem Uo (p q : Pt1) (k : Nat) (b : Bool) : Sound prog 236 false (pS f117 0) (vR (pT f54 0) p k b (((0 : Nat) : Int) - 1) (pc1 q)).aa (.exit 0) (PS (pT f54 0) p k (pc1 q)).aa :=
 pR (P := prog) (X := qC _) (env := []) trivial (n := 2) (os := oL [(239, wO 2)]) (fb := 236) (rd := false) (c := pS f117 0) (k := 238) (I := vR (pT f54 0) p k b (((0 : Nat) : Int) - 1) (pc1 q)) (sk := []) (hk := [0, 1, 2, 3, 226, 230, 234, 235]) (lk := [(235, [5, 7])]) (ex := .exit 0)
  (L := PS (pT f54 0) p k (pc1 q)) (by kernel_rfl) Qq.down
theorem SW (p : Pt1) (k : Nat) (hk : k < 115792089237316195423570985008687907853269984665640564039457584007913129639936) (y : { i : Nat // i <= 64 }) : Sound prog 236 false (.loop (pS f117 0)) (vR (pT f54 0) p k (bgn k (64 - y.val)) (((y.val : Nat) : Int) - 1) (pc1 (wY p k (64 - y.val)))).aa (.exit 0) (PS (pT f54 0) p k (pc1 (wY p k 64))).aa := by
 refine qk (m := fun y : { i : Nat // i <= 64 } => y.val) (fun y => vR (pT f54 0) p k (bgn k (64 - y.val)) (((y.val : Nat) : Int) - 1) (pc1 (wY p k (64 - y.val)))) (by simp) (fun y => ?_) y
 obtain ⟨i, hi⟩ := y
 cases i with
 | zero => exact .inr (Uo p _ k _)
 | succ i =>
  refine .inl ⟨⟨i, by omega⟩, Nat.lt_succ_self i, ?_⟩
  have e1 : 64 - i = (64 - (i + 1)) + 1 := by omega
  have e2 : 63 - (64 - (i + 1)) = i := by omega
  have hb := CF k (64 - (i + 1)) (by omega)
  rw [e2, ← e1] at hb
  have hm : wY p k (64 - i) = zN (sr (sr (sr (sr (wY p k (64 - (i + 1))))))) (ql p (dig k i)) := by
   rw [e1]
   show zN _ (ql p (dig k (63 - (64 - (i + 1))))) = _
   rw [e2]
  simp only
  rw [hm]
  cases hc : bgn k (64 - (i + 1)) with
  | true =>
   rw [hc] at hb
   simp only [Bool.true_or] at hb
   rw [hb]
   exact acj p _ k i (by omega)
  | false =>
   rw [hc] at hb
   simp only [Bool.false_or] at hb
   by_cases hd : ((dig k i : Nat) : Int) > 0
   ·rw [hb, decide_eq_true (by omega)]
    exact abI p _ k i (by omega) hd
   ·have h0 : dig k i = 0 := by omega
    rw [hb, decide_eq_false (by omega)]
    have hn := EH p k (64 - (i + 1)) (Gi hk _ (by omega) hc)
    rw [hn, h0, tZ _ rfl, tZ _ rfl, tZ _ rfl, tZ _ rfl, HT _ _ rfl]
    exact aeG p _ k i (by omega) hd
theorem UQ (p : Pt1) (k : Nat) (hk : k < 115792089237316195423570985008687907853269984665640564039457584007913129639936) : Sound prog 236 false (.loop (pS f117 0)) (vR (pT f54 0) p k false 63 [.m p.1, .m p.2.1, .c (.int .u64 0), .c (.int .u64 0), .c (.int .u64 0), .c (.int .u64 0), .c (.int .u64 0), .c (.int .u64 0)]).aa (.exit 0) (PS (pT f54 0) p k (pc1 (wY p k 64))).aa := by
 have hl := SW p k hk ⟨64, Nat.le_refl _⟩
 simp only [Nat.sub_self, G8 hk] at hl
 refine Sound.pre (J := vR (pT f54 0) p k false (((64 : Nat) : Int) - 1) (pc1 (wY p k 0))) hl [] (by kernel_rfl) ?_
 have e0 : flat [.m p.1, .m p.2.1, .c (.int .u64 0), .c (.int .u64 0), .c (.int .u64 0), .c (.int .u64 0), .c (.int .u64 0), .c (.int .u64 0)] = flat (pc1 (wY p k 0)) := by
  symm
  show flat ([.m p.1, .m p.2.1] ++ [.m (0 : Fin Pp)]) = flat ([.m p.1, .m p.2.1] ++ [.c (.int .u64 0), .c (.int .u64 0), .c (.int .u64 0), .c (.int .u64 0), .c (.int .u64 0), .c (.int .u64 0)])
  rw [p8, p8, zl]
 exact ⟨⟨rfl, rr0, rfl, rfl, tt0⟩, ⟨rr0, rr0, rr0, rr0, ⟨rfl, e0⟩, rr0, tt0, ⟨⟨rfl, rfl, rfl, rfl, rfl, rfl, rfl⟩, vz (by kernel_rfl)⟩, tt0⟩⟩
abbrev JW (p : Pt1) : List Ch := [.m p.1, .m p.2.1, .c (.int .u64 0), .c (.int .u64 0), .c (.int .u64 0), .c (.int .u64 0), .c (.int .u64 0), .c (.int .u64 0)]
abbrev Qu (k : Nat) : Prop := k < 115792089237316195423570985008687907853269984665640564039457584007913129639936
theorem adI (p : Pt1) (k : Nat) (hk : Qu k) : Gives prog 54 [.t (.ag (pc1 p)), .t (.ag [.n 4 k])] (.ag (pc1 (wY p k 64))) :=
 pL (P := prog) (X := qC _) (env := [tR, z7]) ⟨r8, wL, tt0⟩ func54 2 (oL [(238, lpO { I := vR (pT f54 0) p k false 63 (JW p), ex := .exit 0, E := PS (pT f54 0) p k (pc1 (wY p k 64)), fr := 239, lk := [(235, [5, 7])] })]) (by kernel_rfl) ⟨_, rfl⟩ (ai (show some (vR (pT f54 0) p k false 63 (JW p)) = some (vR (pT f54 0) p k false 63 (JW p)) from rfl) (ai (UQ p k hk) tt0))
def Fx : Entry := sH 54 Fs.x yR.x (fun p k => [(some (k < 115792089237316195423570985008687907853269984665640564039457584007913129639936), .ag (pc1 (wY p k 64)))])
theorem Az : Fx.OK prog := qS (fun args w => Go.Proofs.enters_of (P := prog) func54 (by kernel_rfl) rfl args w) (fun p k => rT (fun h => adI p k h))
end Go.Proofs.YtokjhbmmdmeafaaGreat
set_option linter.unusedSimpArgs false
set_option linter.unusedVariables false
namespace Go.Proofs.YtokjhbmmdmeafaaGreat
open Go.Ev Go.RowKit
open Tryz
theorem U7 (x y : Nat) (hx : small x) (hy : small y) (h : ¬ flat [.q (ofP x)] = flat [.n 6 x]) : Gives prog 90 [.t (.ag [.n 6 x, .n 6 y, .c (.bool false)])] (.v (.bool false)) :=
 pI (P := prog) (env := [Dw, uS, qt, re, tl]) ⟨um, rS, qb, qj, qz, tt0⟩ func90 1 (oL [(18, wO 1)]) (by kernel_rfl) (ai (show ¬ flat [.q (ofP x)] = flat [.n 6 x] from h) (ai (show smP y from hy) (ai (show smP x from hx) tt0)))
def JM {x : Nat} (y : Nat) (hx : small x) (hy : small y) (h : flat [.q (ofP x)] = flat [.n 6 x]) := PLift.up (ai (show flat [.q (ofP x)] = flat [.n 6 x] from h) (ai (show smP y from hy) (ai (show smP x from hx) tt0)))
theorem Up (x y : Nat) (hx : small x) (hy : small y) (h : flat [.q (ofP x)] = flat [.n 6 x]) (h2 : ¬ flat [.q (ofP y)] = flat [.n 6 y]) : Gives prog 90 [.t (.ag [.n 6 x, .n 6 y, .c (.bool false)])] (.v (.bool false)) :=
 pI (P := prog) (env := [Dw, uS, qt, re, tl]) ⟨um, rS, qb, qj, qz, tt0⟩ func90 1 (oL [(18, wO 0), (24, wO 1)]) (by kernel_rfl) (ai (show ¬ flat [.q (ofP y)] = flat [.n 6 y] from h2)
   (JM y hx hy h).down)
abbrev E5 (x : Nat) : List Ch := [.m (ofP x * ofP x * ofP x + ofP (4 % 18446744073709551616))]
theorem UW (x y : Nat) (hx : small x) (hy : small y) (h : flat [.q (ofP x)] = flat [.n 6 x]) (h2 : flat [.q (ofP y)] = flat [.n 6 y]) (h3 : ¬ flat [.m (ofP y * ofP y)] = flat (E5 x)) : Gives prog 90 [.t (.ag [.n 6 x, .n 6 y, .c (.bool false)])] (.v (.bool false)) :=
 pI (P := prog) (env := [Dw, uS, qt, re, tl]) ⟨um, rS, qb, qj, qz, tt0⟩ func90 1 (oL [(18, wO 0), (24, wO 0), (37, wO 1)]) (by kernel_rfl) (ai (show ¬ flat [.m (ofP y * ofP y)] = flat (E5 x) from h3) (ai (show flat [.q (ofP y)] = flat [.n 6 y] from h2)
   (JM y hx hy h).down))
theorem aa5 (x y : Nat) (hx : small x) (hy : small y) (h : flat [.q (ofP x)] = flat [.n 6 x]) (h2 : flat [.q (ofP y)] = flat [.n 6 y]) (h3 : flat [.m (ofP y * ofP y)] = flat (E5 x)) : Gives prog 90 [.t (.ag [.n 6 x, .n 6 y, .c (.bool false)])] (.v (.bool true)) :=
 pI (P := prog) (env := [Dw, uS, qt, re, tl]) ⟨um, rS, qb, qj, qz, tt0⟩ func90 1 (oL [(18, wO 0), (24, wO 0), (37, wO 0)]) (by kernel_rfl) (ai (show flat [.m (ofP y * ofP y)] = flat (E5 x) from h3) (ai (show flat [.q (ofP y)] = flat [.n 6 y] from h2)
   (JM y hx hy h).down))
abbrev L7 : List Ch := [.c (.int .u64 0), .c (.int .u64 0), .c (.int .u64 0), .c (.int .u64 0), .c (.int .u64 0), .c (.int .u64 0), .c (.int .u64 0), .c (.int .u64 0), .c (.int .u64 0), .c (.int .u64 0), .c (.int .u64 0), .c (.int .u64 0), .c (.bool true)]
theorem VK (x y : Nat) (h : flat [.n 6 x, .n 6 y, .c (.bool true)] = flat L7) : Gives prog 90 [.t (.ag [.n 6 x, .n 6 y, .c (.bool true)])] (.v (.bool true)) :=
 pI (P := prog) (env := [Dw, uS, qt, re, tl]) ⟨um, rS, qb, qj, qz, tt0⟩ func90 1 (oL [(6, wO 0)]) (by kernel_rfl) (ai (show flat [.n 6 x, .n 6 y, .c (.bool true)] = flat L7 from h) tt0)
theorem VZ (x y : Nat) (h : ¬ flat [.n 6 x, .n 6 y, .c (.bool true)] = flat L7) : Gives prog 90 [.t (.ag [.n 6 x, .n 6 y, .c (.bool true)])] (.v (.bool false)) :=
 pI (P := prog) (env := [Dw, uS, qt, re, tl]) ⟨um, rS, qb, qj, qz, tt0⟩ func90 1 (oL [(6, wO 1)]) (by kernel_rfl) (ai (show ¬ flat [.n 6 x, .n 6 y, .c (.bool true)] = flat L7 from h) tt0)
theorem De (x y : Nat) : flat [.m (ofP y * ofP y)] = flat [.m (ofP x * ofP x * ofP x + ofP (4 % 18446744073709551616))] ↔ ofP y * ofP y = tx (ofP x) := by
 rw [show (4 % 18446744073709551616 : Nat) = 4 from rfl]
 unfold tx
 exact ⟨fun e => wJ e, fun e => by rw [e]⟩
theorem Vb (a : A1) (hs : sml1 a) (h : may1 a) : Gives prog 90 [.t (.ag [.n 6 a.1, .n 6 a.2.1, .c (.bool a.2.2)])] (.v (.bool true)) := by
 obtain ⟨x, y, b⟩ := a
 obtain ⟨hx, hy⟩ := hs
 cases b with
 | true => exact VK x y ((DY hx hy true).2 (by simpa only [may1, if_true] using h))
 | false =>
  have h : is1 x /\ is1 y /\ ofP y * ofP y = tx (ofP x) := h
  exact aa5 x y hx hy ((uR hx).2 h.1) ((uR hy).2 h.2.1) ((De x y).2 h.2.2)
theorem V8 (a : A1) (hs : sml1 a) (h : ¬ may1 a) : Gives prog 90 [.t (.ag [.n 6 a.1, .n 6 a.2.1, .c (.bool a.2.2)])] (.v (.bool false)) := by
 obtain ⟨x, y, b⟩ := a
 obtain ⟨hx, hy⟩ := hs
 cases b with
 | true => exact VZ x y (fun e => h (by simpa only [may1, if_true] using (DY hx hy true).1 e))
 | false =>
  have h : ¬ (is1 x /\ is1 y /\ ofP y * ofP y = tx (ofP x)) := h
  by_cases h1 : is1 x
  ·by_cases h2 : is1 y
   ·exact UW x y hx hy ((uR hx).2 h1) ((uR hy).2 h2) (fun e => h ⟨h1, h2, (De x y).1 e⟩)
   ·exact Up x y hx hy ((uR hx).2 h1) (fun e => h2 ((uR hy).1 e))
  ·exact U7 x y hx hy (fun e => h1 ((uR hx).1 e))
def Lg (a : A1) : ug := [(some (sml1 a /\ may1 a), .v (.bool true)), (some (sml1 a /\ ¬ may1 a), .v (.bool false))]
theorem I9 {f : FuncId} {args : A1 -> List XV} (h1 : ∀ a, sml1 a -> may1 a -> Gives prog f (args a) (.v (.bool true))) (h2 : ∀ a, sml1 a -> ¬ may1 a -> Gives prog f (args a) (.v (.bool false))) : ∀ a c r, (c, r) ∈ Lg a -> c.getD True -> Gives prog f (args a) r := by
 intro a c r hm hc
 simp only [Lg, List.mem_cons, pi0, List.not_mem_nil, or_false] at hm
 rcases hm with ⟨rfl, rfl⟩ | ⟨rfl, rfl⟩
 ·exact h1 a hc.1 hc.2
 ·exact h2 a hc.1 hc.2
def aap : Entry := p7 90 HQ.x Lg
theorem Ml : aap.OK prog := pQ (fun args w => Go.Proofs.enters_of (P := prog) func90 (by kernel_rfl) rfl args w) (I9 Vb V8)
def GS (a : A1) (hs : sml1 a) (h : may1 a) := PLift.up (ai (show sml1 a /\ may1 a from ⟨hs, h⟩) tt0)
theorem Sv (a : A1) (hs : sml1 a) (h : may1 a) : Gives prog 52 [.t (.ag [.n 6 a.1, .n 6 a.2.1, .c (.bool a.2.2)])] (.v (.bool true)) :=
 pI (P := prog) (env := [aap]) ⟨Ml, tt0⟩ func52 0 (oL [(3, wO 0)]) (by kernel_rfl) (GS a hs h).down
theorem Pm (a : A1) (hs : sml1 a) (h : ¬ may1 a) : Gives prog 52 [.t (.ag [.n 6 a.1, .n 6 a.2.1, .c (.bool a.2.2)])] (.v (.bool false)) :=
 pI (P := prog) (env := [aap]) ⟨Ml, tt0⟩ func52 0 (oL [(3, wO 1)]) (by kernel_rfl) (ai (show sml1 a /\ ¬ may1 a from ⟨hs, h⟩) tt0)
def BR : Entry := p7 52 HQ.x Lg
theorem xl : BR.OK prog := pQ (fun args w => Go.Proofs.enters_of (P := prog) func52 (by kernel_rfl) rfl args w) (I9 Sv Pm)
theorem U6 (x y : Nat) : Gives prog 53 [.t (.ag [.n 6 x, .n 6 y, .c (.bool true)])] (.ag [.m (ofP (1 % 18446744073709551616)), .m (ofP (1 % 18446744073709551616)), .c (.int .u64 0), .c (.int .u64 0), .c (.int .u64 0), .c (.int .u64 0), .c (.int .u64 0), .c (.int .u64 0)]) :=
 pI (P := prog) (env := [Dw, tl]) ⟨um, qz, tt0⟩ func53 0 (oL []) (by kernel_rfl) trivial
theorem Ut (x y : Nat) (hx : small x) (hy : small y) : Gives prog 53 [.t (.ag [.n 6 x, .n 6 y, .c (.bool false)])] (.ag [.m (ofP x), .m (ofP y), .m (ofP (1 % 18446744073709551616))]) :=
 pI (P := prog) (env := [Dw, tl]) ⟨um, qz, tt0⟩ func53 0 (oL []) (by kernel_rfl) (ai (show smP y from hy) (ai (show smP x from hx) tt0))
theorem R1 (x y : Nat) : in1 (x, y, false) = (ofP x, ofP y, 1) := by unfold in1; exact if_neg (by simp)
theorem QC (x y : Nat) : in1 (x, y, true) = (1, 1, 0) := by unfold in1; exact if_pos rfl
theorem OH (x y : Fin Pp) : flat [.m x, .m y, .m (ofP (1 % 18446744073709551616))] = flat (pc1 (x, y, 1)) := rfl
theorem Nw : flat [.m (ofP (1 % 18446744073709551616)), .m (ofP (1 % 18446744073709551616)), .c (.int .u64 0), .c (.int .u64 0), .c (.int .u64 0), .c (.int .u64 0), .c (.int .u64 0), .c (.int .u64 0)] = flat (pc1 (1, 1, 0)) := by kernel_rfl
theorem aff (a : A1) (hs : sml1 a) : Gives prog 53 [.t (.ag [.n 6 a.1, .n 6 a.2.1, .c (.bool a.2.2)])] (.ag (pc1 (in1 a))) := by
 obtain ⟨x, y, b⟩ := a
 obtain ⟨hx, hy⟩ := hs
 cases b with
 | true => rw [QC x y]; exact Gives.same (U6 x y) (ry rfl rfl Nw).symm
 | false => rw [R1 x y]; exact Gives.same (Ut x y hx hy) (ry rfl rfl (OH _ _)).symm
def Li : Entry := p7 53 HQ.x (fun a => [(some (sml1 a), .ag (pc1 (in1 a)))])
theorem CA : Li.OK prog := pQ (fun args w => Go.Proofs.enters_of (P := prog) func53 (by kernel_rfl) rfl args w) (fun a => rT (fun h => aff a h))
def WE : Entry := zq 50 [(none, .ag [.c (.int .u64 18446744069414584321), .c (.int .u64 6034159408538082302), .c (.int .u64 3691218898639771653), .c (.int .u64 8353516859464449352)])]
theorem Fm : WE.OK prog := vV (fun args w => Go.Proofs.enters_of (P := prog) func50 (by kernel_rfl) rfl args w)
 (only (pI (P := prog) (env := []) trivial func50 0 o0 (by kernel_rfl) tt0))
theorem Ll : Rr < 115792089237316195423570985008687907853269984665640564039457584007913129639936 := by decide
theorem Qt (a : A1) (hs : sml1 a) (h : may1 a) (g : q7 a) : Gives prog 22 [.t (.ag [.n 6 a.1, .n 6 a.2.1, .c (.bool a.2.2)])] (.v (.bool true)) :=
 pI (P := prog) (env := [BR, Li, WE, Fx, yf]) ⟨xl, CA, Fm, Az, sV, tt0⟩ func22 0 (oL [(3, wO 0), (10, wO 0)]) (by kernel_rfl) (ai (show (wY (in1 a) Rr 64).2.2 = 0 from g) (ai Ll (ai (show sml1 a from hs)
   (GS a hs h).down)))
theorem SM (a : A1) (hs : sml1 a) (h : may1 a) (g : ¬ q7 a) : Gives prog 22 [.t (.ag [.n 6 a.1, .n 6 a.2.1, .c (.bool a.2.2)])] (.v (.bool false)) :=
 pI (P := prog) (env := [BR, Li, WE, Fx, yf]) ⟨xl, CA, Fm, Az, sV, tt0⟩ func22 0 (oL [(3, wO 0), (10, wO 1)]) (by kernel_rfl) (ai (show ¬ (wY (in1 a) Rr 64).2.2 = 0 from g) (ai Ll (ai (show sml1 a from hs)
   (GS a hs h).down)))
theorem UR (a : A1) (hs : sml1 a) (h : ¬ may1 a) : Gives prog 22 [.t (.ag [.n 6 a.1, .n 6 a.2.1, .c (.bool a.2.2)])] (.v (.bool false)) :=
 pI (P := prog) (env := [BR, Li, WE, Fx, yf]) ⟨xl, CA, Fm, Az, sV, tt0⟩ func22 0 (oL [(3, wO 1)]) (by kernel_rfl) (ai (show sml1 a /\ ¬ may1 a from ⟨hs, h⟩) tt0)
def Dy : Entry := p7 22 HQ.x (fun a => [(some (sml1 a /\ may1 a /\ q7 a), .v (.bool true)), (some (sml1 a /\ may1 a /\ ¬ q7 a), .v (.bool false)), (some (sml1 a /\ ¬ may1 a), .v (.bool false))])
theorem CC : Dy.OK prog := pQ (fun args w => Go.Proofs.enters_of (P := prog) func22 (by kernel_rfl) rfl args w) (fun a c r hm hc => by
 simp only [List.mem_cons, pi0, List.not_mem_nil, or_false] at hm
 rcases hm with ⟨rfl, rfl⟩ | ⟨rfl, rfl⟩ | ⟨rfl, rfl⟩
 ·exact Qt a hc.1 hc.2.1 hc.2.2
 ·exact SM a hc.1 hc.2.1 hc.2.2
 ·exact UR a hc.1 hc.2)
end Go.Proofs.YtokjhbmmdmeafaaGreat
set_option linter.unusedSimpArgs false
set_option linter.unusedVariables false
namespace Go.Proofs.YtokjhbmmdmeafaaGreat
open Go.Ev Go.RowKit
open Tryz
theorem abk (x : Nat) : Gives prog 84 [.rd [.n 6 x] 6 6] (.v (.string (ofL (beL 48 x)))) := by
 have h : beL 48 x = (List.range 48).map (fun k => UInt8.ofNat (IntKind.u8.wrap ((x / 18446744073709551616 ^ (6 - 1 - k / 8) % 18446744073709551616 / 2 ^ min (56 - 8 * (k % 8)) 64 % 18446744073709551616 : Nat) : Int)).toNat) := by
  rw [yH]
  refine List.map_congr_left fun k hk => ?_
  rw [List.mem_range] at hk
  rw [IR x _ _ (by omega), ← Bw]
  congr 4
  omega
 rw [h]
 exact pL (P := prog) (X := qC _) (env := []) trivial func84 4 o0 (by kernel_rfl) ⟨_, rfl⟩ trivial
def Kb : Entry := p7 84 (XPar.rd 6 vy (fun _ => rfl)) (fun a => [(none, .v (.string (ofL (beL 48 a))))])
theorem Ef : Kb.OK prog := pQ (fun args w => Go.Proofs.enters_of (P := prog) func84 (by kernel_rfl) rfl args w) (fun a => only (abk a))
def GC : Entry := p7 110 Xr (fun a => [(some (DE a), .v (.string (ofL (beL 48 (aeW a).val))))])
theorem EE : GC.OK prog := pQ (fun args w => Go.Proofs.enters_of (P := prog) func110 (by kernel_rfl) rfl args w) (fun a => match a with
 | .inl a => rT (fun h => pI (P := prog) (env := [xe, Kb]) ⟨vc, Ef, tt0⟩ func110 0 o0 (by kernel_rfl) (ai h tt0))
 | .inr a => rT (fun h => pI (P := prog) (env := [xe, Kb]) ⟨vc, Ef, tt0⟩ func110 0 o0 (by kernel_rfl) (ai h tt0)))
def Hy (l : LU0) : Nat := pre l 5 8 % 18446744073709551616 + 18446744073709551616 * (pre l 4 8 % 18446744073709551616 + 18446744073709551616 * (pre l 3 8 % 18446744073709551616 + 18446744073709551616 * (pre l 2 8 % 18446744073709551616 + 18446744073709551616 * (pre l 1 8 % 18446744073709551616 + 18446744073709551616 * (pre l 0 8 % 18446744073709551616 + 18446744073709551616 * (0))))))
theorem B5 (l : LU0) : Hy l = deN 48 l := by
 have e : deN 48 l = pre l 0 (8 * (0 + 6)) := rfl
 have l0 : pre l 0 8 < 18446744073709551616 := tO l 0 8
 have l1 : pre l 1 8 < 18446744073709551616 := tO l 1 8
 have l2 : pre l 2 8 < 18446744073709551616 := tO l 2 8
 have l3 : pre l 3 8 < 18446744073709551616 := tO l 3 8
 have l4 : pre l 4 8 < 18446744073709551616 := tO l 4 8
 have l5 : pre l 5 8 < 18446744073709551616 := tO l 5 8
 rw [e, show 8 * (0 + 6) = 8 * (5 + 1) from rfl, sg, show 8 * 5 = 8 * (4 + 1) from rfl, sg, show 8 * 4 = 8 * (3 + 1) from rfl, sg, show 8 * 3 = 8 * (2 + 1) from rfl, sg, show 8 * 2 = 8 * (1 + 1) from rfl, sg, show 8 * 1 = 8 * (0 + 1) from rfl, sg]
 unfold Hy
 rw [Nat.mod_eq_of_lt l0]
 rw [Nat.mod_eq_of_lt l1]
 rw [Nat.mod_eq_of_lt l2]
 rw [Nat.mod_eq_of_lt l3]
 rw [Nat.mod_eq_of_lt l4]
 rw [Nat.mod_eq_of_lt l5]
 simp only [pre, Nat.mul_zero, Nat.zero_mul, Nat.zero_add]
 omega
theorem VL (l : LU0) (h : deN 48 l < 4002409555221667393417789825735904156556882819939007885332058136124031650490837864442687629129015664037894272559787) : (AV.tp [.ag [.n 1 (pre l 5 8), .n 1 (pre l 4 8), .n 1 (pre l 3 8), .n 1 (pre l 2 8), .n 1 (pre l 1 8), .n 1 (pre l 0 8)], vi0 0]).val? = (AV.tp [.ag [.q (ofP (deN 48 l))], vi0 0]).val? := by
 have e1 := rn 6 [.n 1 (pre l 5 8), .n 1 (pre l 4 8), .n 1 (pre l 3 8), .n 1 (pre l 2 8), .n 1 (pre l 1 8), .n 1 (pre l 0 8)] (Hy l) [] rfl
 rw [B5] at e1
 have e2 : flat [Ch.q (ofP (deN 48 l))] = limbs 6 (deN 48 l) := by simp only [flat, Ch.cells, List.append_nil]; rw [show (ofP (deN 48 l)).val = deN 48 l from Nat.mod_eq_of_lt h]
 have e3 : flat [.n 1 (pre l 5 8), .n 1 (pre l 4 8), .n 1 (pre l 3 8), .n 1 (pre l 2 8), .n 1 (pre l 1 8), .n 1 (pre l 0 8)] = flat [Ch.q (ofP (deN 48 l))] := by rw [e1, e2]; simp [flat]
 have e4 := ry (a := [.n 1 (pre l 5 8), .n 1 (pre l 4 8), .n 1 (pre l 3 8), .n 1 (pre l 2 8), .n 1 (pre l 1 8), .n 1 (pre l 0 8)]) (b := [Ch.q (ofP (deN 48 l))]) rfl rfl e3
 simp only [AV.val?, AV.vals?] at e4 ⊢
 rw [e4]
def acV (B : Nat -> Nat) : List Ora := [rO 1 (B 0), rO 1 (B 1), rO 1 (B 2), rO 1 (B 3), rO 1 (B 4), rO 1 (B 5), rO 1 (B 6), rO 1 (B 7), rO 1 (B 8), rO 1 (B 9), rO 1 (B 10), rO 1 (B 11), rO 1 (B 12), rO 1 (B 13), rO 1 (B 14), rO 1 (B 15), rO 1 (B 16), rO 1 (B 17), rO 1 (B 18), rO 1 (B 19), rO 1 (B 20), rO 1 (B 21), rO 1 (B 22), rO 1 (B 23), rO 1 (B 24), rO 1 (B 25), rO 1 (B 26), rO 1 (B 27), rO 1 (B 28), rO 1 (B 29), rO 1 (B 30), rO 1 (B 31), rO 1 (B 32), rO 1 (B 33), rO 1 (B 34), rO 1 (B 35), rO 1 (B 36), rO 1 (B 37), rO 1 (B 38), rO 1 (B 39), rO 1 (B 40), rO 1 (B 41), rO 1 (B 42), rO 1 (B 43), rO 1 (B 44), rO 1 (B 45), rO 1 (B 46), rO 1 (B 47)]
def ac0 (B : Nat -> Nat) : List Ora := [{ ch := 2, hi := fun _ => B 0 }, { ch := 2, hi := fun _ => B 1 }, { ch := 2, hi := fun _ => B 2 }, { ch := 2, hi := fun _ => B 3 }, { ch := 2, hi := fun _ => B 4 }, { ch := 2, hi := fun _ => B 5 }, { ch := 2, hi := fun _ => B 6 }, { ch := 2, hi := fun _ => B 7 }, { ch := 2, hi := fun _ => B 8 }, { ch := 2, hi := fun _ => B 9 }, { ch := 2, hi := fun _ => B 10 }, { ch := 2, hi := fun _ => B 11 }, { ch := 2, hi := fun _ => B 12 }, { ch := 2, hi := fun _ => B 13 }, { ch := 2, hi := fun _ => B 14 }, { ch := 2, hi := fun _ => B 15 }, { ch := 2, hi := fun _ => B 16 }, { ch := 2, hi := fun _ => B 17 }, { ch := 2, hi := fun _ => B 18 }, { ch := 2, hi := fun _ => B 19 }, { ch := 2, hi := fun _ => B 20 }, { ch := 2, hi := fun _ => B 21 }, { ch := 2, hi := fun _ => B 22 }, { ch := 2, hi := fun _ => B 23 }, { ch := 2, hi := fun _ => B 24 }, { ch := 2, hi := fun _ => B 25 }, { ch := 2, hi := fun _ => B 26 }, { ch := 2, hi := fun _ => B 27 }, { ch := 2, hi := fun _ => B 28 }, { ch := 2, hi := fun _ => B 29 }, { ch := 2, hi := fun _ => B 30 }, { ch := 2, hi := fun _ => B 31 }, { ch := 2, hi := fun _ => B 32 }, { ch := 2, hi := fun _ => B 33 }, { ch := 2, hi := fun _ => B 34 }, { ch := 2, hi := fun _ => B 35 }, { ch := 2, hi := fun _ => B 36 }, { ch := 2, hi := fun _ => B 37 }, { ch := 2, hi := fun _ => B 38 }, { ch := 2, hi := fun _ => B 39 }, { ch := 2, hi := fun _ => B 40 }, { ch := 2, hi := fun _ => B 41 }, { ch := 2, hi := fun _ => B 42 }, { ch := 2, hi := fun _ => B 43 }, { ch := 2, hi := fun _ => B 44 }, { ch := 2, hi := fun _ => B 45 }, { ch := 2, hi := fun _ => B 46 }, { ch := 2, hi := fun _ => B 47 }]
def acJ (W : Nat -> Nat -> Nat) : List Ora := [{ ch := 1, hi := fun _ => W 0 1 }, { ch := 1, hi := fun _ => W 0 2 }, { ch := 1, hi := fun _ => W 0 3 }, { ch := 1, hi := fun _ => W 0 4 }, { ch := 1, hi := fun _ => W 0 5 }, { ch := 1, hi := fun _ => W 0 6 }, { ch := 1, hi := fun _ => W 0 7 }, { ch := 1, hi := fun _ => W 0 8 }, { ch := 1, hi := fun _ => W 1 1 }, { ch := 1, hi := fun _ => W 1 2 }, { ch := 1, hi := fun _ => W 1 3 }, { ch := 1, hi := fun _ => W 1 4 }, { ch := 1, hi := fun _ => W 1 5 }, { ch := 1, hi := fun _ => W 1 6 }, { ch := 1, hi := fun _ => W 1 7 }, { ch := 1, hi := fun _ => W 1 8 }, { ch := 1, hi := fun _ => W 2 1 }, { ch := 1, hi := fun _ => W 2 2 }, { ch := 1, hi := fun _ => W 2 3 }, { ch := 1, hi := fun _ => W 2 4 }, { ch := 1, hi := fun _ => W 2 5 }, { ch := 1, hi := fun _ => W 2 6 }, { ch := 1, hi := fun _ => W 2 7 }, { ch := 1, hi := fun _ => W 2 8 }, { ch := 1, hi := fun _ => W 3 1 }, { ch := 1, hi := fun _ => W 3 2 }, { ch := 1, hi := fun _ => W 3 3 }, { ch := 1, hi := fun _ => W 3 4 }, { ch := 1, hi := fun _ => W 3 5 }, { ch := 1, hi := fun _ => W 3 6 }, { ch := 1, hi := fun _ => W 3 7 }, { ch := 1, hi := fun _ => W 3 8 }, { ch := 1, hi := fun _ => W 4 1 }, { ch := 1, hi := fun _ => W 4 2 }, { ch := 1, hi := fun _ => W 4 3 }, { ch := 1, hi := fun _ => W 4 4 }, { ch := 1, hi := fun _ => W 4 5 }, { ch := 1, hi := fun _ => W 4 6 }, { ch := 1, hi := fun _ => W 4 7 }, { ch := 1, hi := fun _ => W 4 8 }, { ch := 1, hi := fun _ => W 5 1 }, { ch := 1, hi := fun _ => W 5 2 }, { ch := 1, hi := fun _ => W 5 3 }, { ch := 1, hi := fun _ => W 5 4 }, { ch := 1, hi := fun _ => W 5 5 }, { ch := 1, hi := fun _ => W 5 6 }, { ch := 1, hi := fun _ => W 5 7 }, { ch := 1, hi := fun _ => W 5 8 }]
def aeN (B : Nat -> Nat) (W : Nat -> Nat -> Nat) (last : LO0) : Nat -> Ora := fun id =>
 match S2 [3, 10, 14, 25] id with
 | true => nV 48
 | false =>
  match Nat.ble 45 id, Nat.blt id 1228 with
  | true, true => (match (id - 45) % 25 with
   | 0 => JQ (acV B) ((id - 45) / 25)
   | 1 => JQ (ac0 B) ((id - 45) / 25)
   | 2 => JQ (acJ W) ((id - 45) / 25)
   | _ => { ch := 0, hi := fun _ => 0 })
  | _, _ => oL last id
theorem LS (l : LU0) : Hy l < 39402006196394479212279040100143613805079739270465446667948293404245721771497210611414266254884915640806627990306816 := by rw [B5]; exact RC 48 l
set_option maxRecDepth 100000 in
theorem LC (l : LU0) (h : l.length = 48) : ((l.length : Nat) : Int) = ((48 : Nat) : Int) := by rw [h]
def Xb {l : LU0} {B : Nat -> Nat} {W : Nat -> Nat -> Nat} (h : l.length = 48) (hR : ∀ i : Nat, i < 48 -> (0 : Int) <= (i : Int) /\ (i : Int) < (ofL l).size /\ ((ofL l)[(i : Int).toNat]?.getD 0).toNat = B i) (hC : ∀ i, IntKind.u64 = IntKind.u64 /\ IntKind.u64.wrap ((B i : Nat) : Int) = ((B i % 18446744073709551616 : Nat) : Int)) (h0 : ∀ k, (0 ||| B (8 * k + 0) % 18446744073709551616) % 18446744073709551616 = W k 1 % 18446744073709551616) (h1 : ∀ k m, m < 8 -> (W k m / 18446744073709551616 ^ 0 * 2 ^ min 8 64 % 18446744073709551616 ||| B (8 * k + m) % 18446744073709551616) % 18446744073709551616 = W k (m + 1) % 18446744073709551616) := PLift.up (ai (h1 5 7 (by decide)) (ai (hC 47) (ai (hR 47 (by decide)) (ai (h1 5 6 (by decide)) (ai (hC 46) (ai (hR 46 (by decide)) (ai (h1 5 5 (by decide)) (ai (hC 45) (ai (hR 45 (by decide)) (ai (h1 5 4 (by decide)) (ai (hC 44) (ai (hR 44 (by decide)) (ai (h1 5 3 (by decide)) (ai (hC 43) (ai (hR 43 (by decide)) (ai (h1 5 2 (by decide)) (ai (hC 42) (ai (hR 42 (by decide)) (ai (h1 5 1 (by decide)) (ai (hC 41) (ai (hR 41 (by decide)) (ai (h0 5) (ai (hC 40) (ai (hR 40 (by decide)) (ai (h1 4 7 (by decide)) (ai (hC 39) (ai (hR 39 (by decide)) (ai (h1 4 6 (by decide)) (ai (hC 38) (ai (hR 38 (by decide)) (ai (h1 4 5 (by decide)) (ai (hC 37) (ai (hR 37 (by decide)) (ai (h1 4 4 (by decide)) (ai (hC 36) (ai (hR 36 (by decide)) (ai (h1 4 3 (by decide)) (ai (hC 35) (ai (hR 35 (by decide)) (ai (h1 4 2 (by decide)) (ai (hC 34) (ai (hR 34 (by decide)) (ai (h1 4 1 (by decide)) (ai (hC 33) (ai (hR 33 (by decide)) (ai (h0 4) (ai (hC 32) (ai (hR 32 (by decide)) (ai (h1 3 7 (by decide)) (ai (hC 31) (ai (hR 31 (by decide)) (ai (h1 3 6 (by decide)) (ai (hC 30) (ai (hR 30 (by decide)) (ai (h1 3 5 (by decide)) (ai (hC 29) (ai (hR 29 (by decide)) (ai (h1 3 4 (by decide)) (ai (hC 28) (ai (hR 28 (by decide)) (ai (h1 3 3 (by decide)) (ai (hC 27) (ai (hR 27 (by decide)) (ai (h1 3 2 (by decide)) (ai (hC 26) (ai (hR 26 (by decide)) (ai (h1 3 1 (by decide)) (ai (hC 25) (ai (hR 25 (by decide)) (ai (h0 3) (ai (hC 24) (ai (hR 24 (by decide)) (ai (h1 2 7 (by decide)) (ai (hC 23) (ai (hR 23 (by decide)) (ai (h1 2 6 (by decide)) (ai (hC 22) (ai (hR 22 (by decide)) (ai (h1 2 5 (by decide)) (ai (hC 21) (ai (hR 21 (by decide)) (ai (h1 2 4 (by decide)) (ai (hC 20) (ai (hR 20 (by decide)) (ai (h1 2 3 (by decide)) (ai (hC 19) (ai (hR 19 (by decide)) (ai (h1 2 2 (by decide)) (ai (hC 18) (ai (hR 18 (by decide)) (ai (h1 2 1 (by decide)) (ai (hC 17) (ai (hR 17 (by decide)) (ai (h0 2) (ai (hC 16) (ai (hR 16 (by decide)) (ai (h1 1 7 (by decide)) (ai (hC 15) (ai (hR 15 (by decide)) (ai (h1 1 6 (by decide)) (ai (hC 14) (ai (hR 14 (by decide)) (ai (h1 1 5 (by decide)) (ai (hC 13) (ai (hR 13 (by decide)) (ai (h1 1 4 (by decide)) (ai (hC 12) (ai (hR 12 (by decide)) (ai (h1 1 3 (by decide)) (ai (hC 11) (ai (hR 11 (by decide)) (ai (h1 1 2 (by decide)) (ai (hC 10) (ai (hR 10 (by decide)) (ai (h1 1 1 (by decide)) (ai (hC 9) (ai (hR 9 (by decide)) (ai (h0 1) (ai (hC 8) (ai (hR 8 (by decide)) (ai (h1 0 7 (by decide)) (ai (hC 7) (ai (hR 7 (by decide)) (ai (h1 0 6 (by decide)) (ai (hC 6) (ai (hR 6 (by decide)) (ai (h1 0 5 (by decide)) (ai (hC 5) (ai (hR 5 (by decide)) (ai (h1 0 4 (by decide)) (ai (hC 4) (ai (hR 4 (by decide)) (ai (h1 0 3 (by decide)) (ai (hC 3) (ai (hR 3 (by decide)) (ai (h1 0 2 (by decide)) (ai (hC 2) (ai (hR 2 (by decide)) (ai (h1 0 1 (by decide)) (ai (hC 1) (ai (hR 1 (by decide)) (ai (h0 0) (ai (hC 0) (ai (hR 0 (by decide)) (ai (LC l h) (ai (LC l h) (ai (LC l h) (ai (LC l h) tt0))))))))))))))))))))))))))))))))))))))))))))))))))))))))))))))))))))))))))))))))))))))))))))))))))))))))))))))))))))))))))))))))))))))))))))))))))))
theorem Kt {a : List XV} {r : AV} {b : Prop} (o : Nat -> Ora) (h : fnA prog (qC _) [Cr] 1 o f94 a = some (r, b)) (hv : ∃ v, r.val? = some v) (hb : b) : Gives prog 94 a r := pL (P := prog) (X := qC _) (env := [Cr]) ⟨H7, tt0⟩ func94 1 o h hv hb
theorem ML (l : LU0) (B : Nat -> Nat) (W : Nat -> Nat -> Nat) (h : l.length = 48) (hR : ∀ i : Nat, i < 48 -> (0 : Int) <= (i : Int) /\ (i : Int) < (ofL l).size /\ ((ofL l)[(i : Int).toNat]?.getD 0).toNat = B i) (hC : ∀ i, IntKind.u64 = IntKind.u64 /\ IntKind.u64.wrap ((B i : Nat) : Int) = ((B i % 18446744073709551616 : Nat) : Int)) (h0 : ∀ k, (0 ||| B (8 * k + 0) % 18446744073709551616) % 18446744073709551616 = W k 1 % 18446744073709551616) (h1 : ∀ k m, m < 8 -> (W k m / 18446744073709551616 ^ 0 * 2 ^ min 8 64 % 18446744073709551616 ||| B (8 * k + m) % 18446744073709551616) % 18446744073709551616 = W k (m + 1) % 18446744073709551616) (hN : (W 5 8 % 18446744073709551616 + 18446744073709551616 * (W 4 8 % 18446744073709551616 + 18446744073709551616 * (W 3 8 % 18446744073709551616 + 18446744073709551616 * (W 2 8 % 18446744073709551616 + 18446744073709551616 * (W 1 8 % 18446744073709551616 + 18446744073709551616 * (W 0 8 % 18446744073709551616 + 18446744073709551616 * (0))))))) < 39402006196394479212279040100143613805079739270465446667948293404245721771497210611414266254884915640806627990306816 /\ (W 5 8 % 18446744073709551616 + 18446744073709551616 * (W 4 8 % 18446744073709551616 + 18446744073709551616 * (W 3 8 % 18446744073709551616 + 18446744073709551616 * (W 2 8 % 18446744073709551616 + 18446744073709551616 * (W 1 8 % 18446744073709551616 + 18446744073709551616 * (W 0 8 % 18446744073709551616 + 18446744073709551616 * (0))))))) < 4002409555221667393417789825735904156556882819939007885332058136124031650490837864442687629129015664037894272559787) : Gives prog 94 [.t (.v (.string (ofL l)))] (.tp [.ag [.n 1 (W 5 8), .n 1 (W 4 8), .n 1 (W 3 8), .n 1 (W 2 8), .n 1 (W 1 8), .n 1 (W 0 8)], vi0 0]) :=
 Kt (aeN B W [(1244, wO 0)]) (by kernel_rfl) ⟨_, rfl⟩ (ai (hN) (Xb h hR hC h0 h1).down)
set_option maxRecDepth 100000 in
abbrev Qc : List Ch := [.c (.int .u64 0), .c (.int .u64 0), .c (.int .u64 0), .c (.int .u64 0), .c (.int .u64 0), .c (.int .u64 0)]
theorem Ow (l : LU0) (B : Nat -> Nat) (W : Nat -> Nat -> Nat) (h : l.length = 48) (hR : ∀ i : Nat, i < 48 -> (0 : Int) <= (i : Int) /\ (i : Int) < (ofL l).size /\ ((ofL l)[(i : Int).toNat]?.getD 0).toNat = B i) (hC : ∀ i, IntKind.u64 = IntKind.u64 /\ IntKind.u64.wrap ((B i : Nat) : Int) = ((B i % 18446744073709551616 : Nat) : Int)) (h0 : ∀ k, (0 ||| B (8 * k + 0) % 18446744073709551616) % 18446744073709551616 = W k 1 % 18446744073709551616) (h1 : ∀ k m, m < 8 -> (W k m / 18446744073709551616 ^ 0 * 2 ^ min 8 64 % 18446744073709551616 ||| B (8 * k + m) % 18446744073709551616) % 18446744073709551616 = W k (m + 1) % 18446744073709551616) (hN : (W 5 8 % 18446744073709551616 + 18446744073709551616 * (W 4 8 % 18446744073709551616 + 18446744073709551616 * (W 3 8 % 18446744073709551616 + 18446744073709551616 * (W 2 8 % 18446744073709551616 + 18446744073709551616 * (W 1 8 % 18446744073709551616 + 18446744073709551616 * (W 0 8 % 18446744073709551616 + 18446744073709551616 * (0))))))) < 39402006196394479212279040100143613805079739270465446667948293404245721771497210611414266254884915640806627990306816 /\ 4002409555221667393417789825735904156556882819939007885332058136124031650490837864442687629129015664037894272559787 <= (W 5 8 % 18446744073709551616 + 18446744073709551616 * (W 4 8 % 18446744073709551616 + 18446744073709551616 * (W 3 8 % 18446744073709551616 + 18446744073709551616 * (W 2 8 % 18446744073709551616 + 18446744073709551616 * (W 1 8 % 18446744073709551616 + 18446744073709551616 * (W 0 8 % 18446744073709551616 + 18446744073709551616 * (0)))))))) : Gives prog 94 [.t (.v (.string (ofL l)))] (.tp [.ag Qc, vi0 20]) :=
 Kt (aeN B W [(1244, wO 1)]) (by kernel_rfl) ⟨_, rfl⟩ (ai (hN) (Xb h hR hC h0 h1).down)
theorem RD (l : LU0) (h : l.length = 48) (hp : deN 48 l < 4002409555221667393417789825735904156556882819939007885332058136124031650490837864442687629129015664037894272559787) : Gives prog 94 [.t (.v (.string (ofL l)))] (.tp [.ag [.q (ofP (deN 48 l))], vi0 0]) :=
 Gives.same (ML l (byt l) (pre l) h (fun i hi => ym l 48 i h hi) (yq l) (BY l) (fun k m hm => by rw [Nat.pow_zero, Nat.div_one]; exact Fg l k m hm) (show Hy l < 39402006196394479212279040100143613805079739270465446667948293404245721771497210611414266254884915640806627990306816 /\ Hy l < 4002409555221667393417789825735904156556882819939007885332058136124031650490837864442687629129015664037894272559787 from ⟨LS l, by rw [B5]; exact hp⟩)) (VL l hp).symm
theorem Tm (l : LU0) (h : l.length = 48) (hp : 4002409555221667393417789825735904156556882819939007885332058136124031650490837864442687629129015664037894272559787 <= deN 48 l) : Gives prog 94 [.t (.v (.string (ofL l)))] (.tp [.ag [.c (.int .u64 0), .c (.int .u64 0), .c (.int .u64 0), .c (.int .u64 0), .c (.int .u64 0), .c (.int .u64 0)], vi0 20]) :=
 Ow l (byt l) (pre l) h (fun i hi => ym l 48 i h hi) (yq l) (BY l) (fun k m hm => by rw [Nat.pow_zero, Nat.div_one]; exact Fg l k m hm) (show Hy l < 39402006196394479212279040100143613805079739270465446667948293404245721771497210611414266254884915640806627990306816 /\ 4002409555221667393417789825735904156556882819939007885332058136124031650490837864442687629129015664037894272559787 <= Hy l from ⟨LS l, by rw [B5]; exact hp⟩)
theorem NS (l : LU0) (h : l.length ≠ 48) : Gives prog 94 [.t (.v (.string (ofL l)))] (.tp [.ag Qc, vi0 3]) :=
 Kt (oL [(4, wT)]) (by kernel_rfl) ⟨_, rfl⟩ (ai (show ((((l.length : Nat) : Int) != 48) = true) from by simp; omega) tt0)
def C0 : Entry := p7 94 XPar.str (fun l => [(some (l.length ≠ 48), .tp [.ag [.c (.int .u64 0), .c (.int .u64 0), .c (.int .u64 0), .c (.int .u64 0), .c (.int .u64 0), .c (.int .u64 0)], vi0 3]), (some (l.length = 48 /\ deN 48 l < 4002409555221667393417789825735904156556882819939007885332058136124031650490837864442687629129015664037894272559787), .tp [.ag [.q (ofP (deN 48 l))], vi0 0]), (some (l.length = 48 /\ 4002409555221667393417789825735904156556882819939007885332058136124031650490837864442687629129015664037894272559787 <= deN 48 l), .tp [.ag [.c (.int .u64 0), .c (.int .u64 0), .c (.int .u64 0), .c (.int .u64 0), .c (.int .u64 0), .c (.int .u64 0)], vi0 20])])
theorem DN : C0.OK prog := pQ (fun args w => Go.Proofs.enters_of (P := prog) func94 (by kernel_rfl) rfl args w) (fun l c r hm hc => by
 simp only [List.mem_cons, pi0, List.not_mem_nil, or_false] at hm
 rcases hm with ⟨rfl, rfl⟩ | ⟨rfl, rfl⟩ | ⟨rfl, rfl⟩
 ·exact NS l hc
 ·exact RD l hc.1 hc.2
 ·exact Tm l hc.1 hc.2)
end Go.Proofs.YtokjhbmmdmeafaaGreat
set_option linter.unusedVariables false
namespace Go.Proofs.YtokjhbmmdmeafaaGreat
open Go.Ev Go.RowKit
open Tryz
theorem MQ (w : World) (v : Value) (t : TypeId) : (w.alloc (Obj.cells #[v] t)).drew.cell? ⟨w.heap.size, 0, none⟩ = some v := by
 show (w.alloc (Obj.cells #[v] t)).cell? ⟨w.heap.size, 0, none⟩ = some v
 rw [World.cell?_alloc_new]
 rfl
theorem Tq (w w1 : World) (b : Nat) (n : Int) (h : w1.cell? ⟨b, 0, none⟩ = some (.int .u8 n)) : (convert 157 9 (.slice (some ⟨b, 0, none⟩) 1 1)).run prog w1 = .ok (.string ⟨#[UInt8.ofNat n.toNat]⟩) w1 := by
 rw [run_convert_bytes_string w1 _ _ 5 _ _ _ Tryz.underlying157 Tryz.underlying5 Tryz.underlying9]
 have h1 := run_loadCells_list (P := prog) w1 ⟨b, 0, none⟩ [.int .u8 n] (fun j v hj => by
  match j, hj with
  | 0, hj => simp at hj; subst hj; simpa [Addr.add] using h)
 rw [run_bytesToString w1 _ 1 1 [n] h1]
 rfl
set_option maxRecDepth 100000 in
theorem F0 (s : ByteArray) (f : Int) (w : World) (hs : 0 < s.size) (h63 : s.size <= 1000) : Calls prog 125 #[.string s, .int .u8 f] w fun e w' => e = .returned (.string (⟨#[UInt8.ofNat (bits BinOp.or IntKind.u8 (s[0].toNat : Int) f).toNat]⟩ ++ s.extract 1 s.size)) /\ Below w.heap.size w w' := by
 have hc := Tq w (w.alloc (Obj.cells #[Value.int IntKind.u8 (bits BinOp.or IntKind.u8 (↑s[0].toNat) f)] 5)).drew w.heap.size _ (MQ w _ _)
 go_enter func125, Tryz.ntmps125
 go_wp2
 go_region
 go_wp2
 go_ret
 exact ⟨rfl, ((Below.refl _ _).alloc (Nat.le_refl _) _).drew⟩
theorem VQ (l : LU0) (f : Int) (h : 0 < (ofL l).size) : (⟨#[UInt8.ofNat (bits BinOp.or IntKind.u8 ((ofL l)[0].toNat : Int) f).toNat]⟩ : ByteArray) ++ (ofL l).extract 1 (ofL l).size = ofL (yP l f) := by
 match l, h with
 | b :: r, h =>
  apply ByteArray.ext
  apply Array.toList_inj.1
  rw [ByteArray.data_append, ByteArray.data_extract]
  show (#[UInt8.ofNat (bits BinOp.or IntKind.u8 (b.toNat : Int) f).toNat] ++ (b :: r).toArray.extract 1 (b :: r).toArray.size).toList = (UInt8.ofNat (bits BinOp.or IntKind.u8 (b.toNat : Int) f).toNat :: r)
  simp
def Iu : Entry := sH 125 XPar.str (XPar.int .u8) (fun l f => [(some (0 < l.length /\ l.length <= 1000), .v (.string (ofL (yP l f))))])
theorem Ip : Iu.OK prog := qS (fun args w => Go.Proofs.enters_of (P := prog) func125 (by kernel_rfl) rfl args w) (fun l f c r hm hc => by
 simp only [List.mem_cons, pi0, List.not_mem_nil, or_false] at hm
 obtain ⟨rfl, rfl⟩ := hm
 refine ⟨_, rfl, fun w vs hx => ?_⟩
 match vs, hx with
 | [p, q], hx =>
  have h1 : p = .string (ofL l) := (Option.some.inj (hx.1 : some (Value.string (ofL l)) = some p)).symm
  subst h1
  have h2 : q = .int .u8 f := (Option.some.inj (hx.2.1 : some (Value.int .u8 f) = some q)).symm
  subst h2
  have h := F0 (ofL l) f w hc.1 hc.2
  rw [VQ l f hc.1] at h
  exact h)
theorem F9 (v : Value) (r : LU0) : flat [.c v, .y r] = v :: r.map qK := by simp [flat, Ch.cells]
theorem Qj (v : Value) (b : UInt8) (r : LU0) : (flat [.c v, .y r]).take (ofL (b :: r)).size = v :: r.map qK := by
 rw [F9]
 exact List.take_of_length_le (Nat.le_of_eq (by simp only [List.length_cons, List.length_map]; rfl))
end Go.Proofs.YtokjhbmmdmeafaaGreat
set_option linter.unusedSimpArgs false
set_option linter.unusedVariables false
namespace Go.Proofs.YtokjhbmmdmeafaaGreat
open Go.Ev Go.RowKit
open Tryz
theorem Lt : 0 < 48 /\ 48 <= 1000 := by decide
def XP (x : Nat) (y : Nat) (hx : small x) (hy : small y) (hr : may1 (x, y, false)) (hg : q7 (x, y, false)) := PLift.up (ai (show smP y from hy) (ai (show DE (.inr y) from hy) (ai (show DE (.inr x) from hx) (ai (show sml1 (x, y, false) /\ may1 (x, y, false) /\ q7 (x, y, false) from ⟨⟨hx, hy⟩, hr, hg⟩) (ai (show sml1 (x, y, false) /\ may1 (x, y, false) from ⟨⟨hx, hy⟩, hr⟩) tt0)))))
abbrev E9 := oL [(9, wO 0), (13, wO 0), (27, wO 1)]
theorem At {a : List XV} {r : AV} {b : Prop} (o : Nat -> Ora) (h : fnA prog (qC _) [BR, Dy, GC, Dw, wy, Iu] 2 o f41 a = some (r, b)) (hv : ∃ v, r.val? = some v) (hb : b) : Gives prog 41 a r := pL (P := prog) (X := qC _) (env := [BR, Dy, GC, Dw, wy, Iu]) ⟨xl, CC, EE, um, tH, Ip, tt0⟩ func41 2 o h hv hb
theorem Vg (x y : Nat) (hx : small x) (hy : small y) (hr : may1 (x, y, false)) (hg : q7 (x, y, false)) (hh : ¬ hiP (ofP y)) : Gives prog 41 [.t (.ag [.n 6 x, .n 6 y, .c (.bool false)])] (.tp [.v (.string (ofL (yP (b1 (ofP x)) (vg false false true)))), vi0 0]) :=
 At E9 (by kernel_rfl) ⟨_, rfl⟩ (ai Lt (ai (show ¬ hiP (ofP y) from hh)
   (XP x y hx hy hr hg).down))
abbrev GY := oL [(9, wO 0), (13, wO 0), (27, wO 0)]
theorem Wq (x y : Nat) (hx : small x) (hy : small y) (hr : may1 (x, y, false)) (hg : q7 (x, y, false)) (hh : hiP (ofP y)) : Gives prog 41 [.t (.ag [.n 6 x, .n 6 y, .c (.bool false)])] (.tp [.v (.string (ofL (yP (b1 (ofP x)) (vg false true true)))), vi0 0]) :=
 At GY (by kernel_rfl) ⟨_, rfl⟩ (ai Lt (ai (show hiP (ofP y) from hh)
   (XP x y hx hy hr hg).down))
def WY (x : Nat) (y : Nat) (hx : small x) (hy : small y) (hr : may1 (x, y, true)) (hg : q7 (x, y, true)) := PLift.up (ai (show smP y from hy) (ai (show DE (.inr y) from hy) (ai (show DE (.inr x) from hx) (ai (show sml1 (x, y, true) /\ may1 (x, y, true) /\ q7 (x, y, true) from ⟨⟨hx, hy⟩, hr, hg⟩) (ai (show sml1 (x, y, true) /\ may1 (x, y, true) from ⟨⟨hx, hy⟩, hr⟩) tt0)))))
theorem VH (x y : Nat) (hx : small x) (hy : small y) (hr : may1 (x, y, true)) (hg : q7 (x, y, true)) (hh : ¬ hiP (ofP y)) : Gives prog 41 [.t (.ag [.n 6 x, .n 6 y, .c (.bool true)])] (.tp [.v (.string (ofL (yP (b1 (ofP x)) (vg true false true)))), vi0 0]) :=
 At E9 (by kernel_rfl) ⟨_, rfl⟩ (ai Lt (ai (show ¬ hiP (ofP y) from hh)
   (WY x y hx hy hr hg).down))
theorem Wg (x y : Nat) (hx : small x) (hy : small y) (hr : may1 (x, y, true)) (hg : q7 (x, y, true)) (hh : hiP (ofP y)) : Gives prog 41 [.t (.ag [.n 6 x, .n 6 y, .c (.bool true)])] (.tp [.v (.string (ofL (yP (b1 (ofP x)) (vg true true true)))), vi0 0]) :=
 At GY (by kernel_rfl) ⟨_, rfl⟩ (ai Lt (ai (show hiP (ofP y) from hh)
   (WY x y hx hy hr hg).down))
theorem TA (a : A1) (hs : sml1 a) (h : ¬ may1 a) : Gives prog 41 [.t (.ag [.n 6 a.1, .n 6 a.2.1, .c (.bool a.2.2)])] (.tp [.v (.string (ofL [])), vi0 30]) :=
 At (oL [(9, wO 1)]) (by kernel_rfl) ⟨_, rfl⟩ (ai (show sml1 a /\ ¬ may1 a from ⟨hs, h⟩) tt0)
theorem Ru (a : A1) (hs : sml1 a) (h : may1 a) (g : ¬ q7 a) : Gives prog 41 [.t (.ag [.n 6 a.1, .n 6 a.2.1, .c (.bool a.2.2)])] (.tp [.v (.string (ofL [])), vi0 31]) :=
 At (oL [(9, wO 0), (13, wO 1)]) (by kernel_rfl) ⟨_, rfl⟩ (ai (show sml1 a /\ may1 a /\ ¬ q7 a from ⟨hs, h, g⟩) (GS a hs h).down)
theorem Uj (a : A1) (hs : sml1 a) (h : may1 a) (g : q7 a) : Gives prog 41 [.t (.ag [.n 6 a.1, .n 6 a.2.1, .c (.bool a.2.2)])] (.tp [.v (.string (ofL (zP (ofP a.1) (ofP a.2.1) a.2.2 true))), vi0 0]) := by
 obtain ⟨x, y, b⟩ := a
 unfold zP
 cases b <;> by_cases hh : hiP (ofP y)
 ·rw [show decide (hiP (ofP (x, y, false).2.1)) = true from decide_eq_true hh]; exact Wq x y hs.1 hs.2 h g hh
 ·rw [show decide (hiP (ofP (x, y, false).2.1)) = false from decide_eq_false hh]; exact Vg x y hs.1 hs.2 h g hh
 ·rw [show decide (hiP (ofP (x, y, true).2.1)) = true from decide_eq_true hh]; exact Wg x y hs.1 hs.2 h g hh
 ·rw [show decide (hiP (ofP (x, y, true).2.1)) = false from decide_eq_false hh]; exact VH x y hs.1 hs.2 h g hh
end Go.Proofs.YtokjhbmmdmeafaaGreat
set_option linter.unusedSimpArgs false
set_option linter.unusedVariables false
namespace Go.Proofs.YtokjhbmmdmeafaaGreat
open Go.Ev Go.RowKit
open Tryz
def pc2 (p : Pt2) : List Ch := [.m (p).1.1, .m (p).1.2, .m (p).2.1.1, .m (p).2.1.2, .m (p).2.2.1, .m (p).2.2.2]
def GR : Par Pt2 := adV
theorem Ad : flat (m2 ((0, 0) : F2)) = flat [.c (.int .u64 0), .c (.int .u64 0), .c (.int .u64 0), .c (.int .u64 0), .c (.int .u64 0), .c (.int .u64 0), .c (.int .u64 0), .c (.int .u64 0), .c (.int .u64 0), .c (.int .u64 0), .c (.int .u64 0), .c (.int .u64 0)] := by kernel_rfl
theorem xW : ∀ l m : List (Fin Pp), l.length = m.length -> flat (l.map .m) = flat (m.map .m) -> l = m
 | [], [], _, _ => rfl
 | [], _ :: _, h, _ => by simp at h
 | _ :: _, [], h, _ => by simp at h
 | x :: l, y :: m, h, e => by
  have e' : limbs 6 (toM x) ++ flat (l.map .m) = limbs 6 (toM y) ++ flat (m.map .m) := e
  have hl : (limbs 6 (toM x)).length = (limbs 6 (toM y)).length := by simp only [limbs, List.length_cons, List.length_nil]
  have h1 := List.append_inj e' hl
  have h2 : flat [Ch.m x] = flat [Ch.m y] := by simp only [flat, Ch.cells, List.append_nil]; exact h1.1
  rw [wJ h2, xW l m (by simpa using h) h1.2]
theorem Yx (a : F2) (h : a = (0, 0)) : Gives prog 51 [.t (.ag (m2 a))] (.v (.bool true)) := pI (P := prog) (env := []) trivial func51 0 (oN [] [(4, 0)]) (by kernel_rfl) (ai (show flat (m2 a) = flat [.c (.int .u64 0), .c (.int .u64 0), .c (.int .u64 0), .c (.int .u64 0), .c (.int .u64 0), .c (.int .u64 0), .c (.int .u64 0), .c (.int .u64 0), .c (.int .u64 0), .c (.int .u64 0), .c (.int .u64 0), .c (.int .u64 0)] from by rw [h]; exact Ad) tt0)
theorem ZR (a : F2) (h : a ≠ (0, 0)) : Gives prog 51 [.t (.ag (m2 a))] (.v (.bool false)) := pI (P := prog) (env := []) trivial func51 0 (oN [] [(4, 1)]) (by kernel_rfl) (ai (show ¬ flat (m2 a) = flat [.c (.int .u64 0), .c (.int .u64 0), .c (.int .u64 0), .c (.int .u64 0), .c (.int .u64 0), .c (.int .u64 0), .c (.int .u64 0), .c (.int .u64 0), .c (.int .u64 0), .c (.int .u64 0), .c (.int .u64 0), .c (.int .u64 0)] from fun e => h (by
 have := xW [a.1, a.2] [0, 0] rfl (e.trans Ad.symm)
 simp only [List.cons.injEq] at this
 exact vL this.1 this.2.1)) tt0)
def xI : Entry := p7 51 uj.x (fun a => [(some (a = (0, 0)), .v (.bool true)), (some (a ≠ (0, 0)), .v (.bool false))])
theorem sS : xI.OK prog := pQ (fun args w => Go.Proofs.enters_of (P := prog) func51 (by kernel_rfl) rfl args w) (fun a c r hm hc => by
 simp only [List.mem_cons, pi0, List.not_mem_nil, or_false] at hm
 rcases hm with ⟨rfl, rfl⟩ | ⟨rfl, rfl⟩
 ·exact Yx a hc
 ·exact ZR a hc)
theorem QW (p : Pt2) (h : p.2.2 = ((0, 0) : F2)) : Gives prog 89 [.t (.ag (pc2 p))] (.ag (pc2 (sq p))) := by
 unfold sq
 rw [if_pos h]
 exact pI (P := prog) (env := [xI, sN, vd, rM]) ⟨sS, qZ, sY, qM, tt0⟩ func89 0 (oL [(5, wO 0)]) (by kernel_rfl) (ai h tt0)
theorem OS (p : Pt2) (h : p.2.2 ≠ ((0, 0) : F2)) : Gives prog 89 [.t (.ag (pc2 p))] (.ag (pc2 (sq p))) := by
 unfold sq
 rw [if_neg h]
 exact pI (P := prog) (env := [xI, sN, vd, rM]) ⟨sS, qZ, sY, qM, tt0⟩ func89 0 (oL [(5, wO 1)]) (by kernel_rfl) (ai h tt0)
def tU : Entry := p7 89 GR.x (fun p => [(none, .ag (pc2 (sq p)))])
theorem sd : tU.OK prog := pQ (fun args w => Go.Proofs.enters_of (P := prog) func89 (by kernel_rfl) rfl args w) (fun p => only (by
 by_cases h : p.2.2 = ((0, 0) : F2)
 ·exact QW p h
 ·exact OS p h))
theorem adR (p q : Pt2) : Gives prog 87 [.t (.ag (pc2 p)), .t (.ag (pc2 q))] (.ag (pc2 (zV p q))) := by
 unfold zV
 by_cases h1 : p.2.2 = ((0, 0) : F2)
 ·rw [if_pos h1]
  exact pI (P := prog) (env := [xI, tU, sN, vd, rM]) ⟨sS, sd, qZ, sY, qM, tt0⟩ func87 0 (oL [(6, wO 0)]) (by kernel_rfl) (ai h1 tt0)
 ·rw [if_neg h1]
  by_cases h2 : q.2.2 = ((0, 0) : F2)
  ·rw [if_pos h2]
   exact pI (P := prog) (env := [xI, tU, sN, vd, rM]) ⟨sS, sd, qZ, sY, qM, tt0⟩ func87 0 (oL [(6, wO 1), (11, wO 0)]) (by kernel_rfl) (ai h2 (ai h1 tt0))
  ·rw [if_neg h2]
   by_cases h3 : hP2 p q = ((0, 0) : F2)
   ·rw [if_pos h3]
    by_cases h4 : rP2 p q = ((0, 0) : F2)
    ·rw [if_pos h4]
     exact pI (P := prog) (env := [xI, tU, sN, vd, rM]) ⟨sS, sd, qZ, sY, qM, tt0⟩ func87 0 (oL [(6, wO 1), (11, wO 1), (79, wO 0), (82, wO 0)]) (by kernel_rfl) (ai h4 (ai h3 (ai h2 (ai h1 tt0))))
    ·rw [if_neg h4]
     refine Gives.same (r := .ag ([.m p.1.1, .m p.1.2, .m p.2.1.1, .m p.2.1.2, .c (.int .u64 0), .c (.int .u64 0), .c (.int .u64 0), .c (.int .u64 0), .c (.int .u64 0), .c (.int .u64 0), .c (.int .u64 0), .c (.int .u64 0), .c (.int .u64 0), .c (.int .u64 0), .c (.int .u64 0), .c (.int .u64 0)])) (pI (P := prog) (env := [xI, tU, sN, vd, rM]) ⟨sS, sd, qZ, sY, qM, tt0⟩ func87 0 (oL [(6, wO 1), (11, wO 1), (79, wO 0), (82, wO 1)]) (by kernel_rfl) (ai h4 (ai h3 (ai h2 (ai h1 tt0))))) (ry rfl rfl ?_)
     show flat ([.m p.1.1, .m p.1.2, .m p.2.1.1, .m p.2.1.2] ++ m2 ((0, 0) : F2)) = flat ([.m p.1.1, .m p.1.2, .m p.2.1.1, .m p.2.1.2] ++ [.c (.int .u64 0), .c (.int .u64 0), .c (.int .u64 0), .c (.int .u64 0), .c (.int .u64 0), .c (.int .u64 0), .c (.int .u64 0), .c (.int .u64 0), .c (.int .u64 0), .c (.int .u64 0), .c (.int .u64 0), .c (.int .u64 0)])
     rw [p8, p8, Ad]
   ·rw [if_neg h3]
    exact pI (P := prog) (env := [xI, tU, sN, vd, rM]) ⟨sS, sd, qZ, sY, qM, tt0⟩ func87 0 (oL [(6, wO 1), (11, wO 1), (79, wO 1)]) (by kernel_rfl) (ai h3 (ai h2 (ai h1 tt0)))
def zS : Entry := sH 87 GR.x GR.x (fun p q => [(none, .ag (pc2 (zV p q)))])
theorem wK : zS.OK prog := qS (fun args w => Go.Proofs.enters_of (P := prog) func87 (by kernel_rfl) rfl args w) (fun p q => only (adR p q))
def CX (p : Pt2) : List Ch := [.m p.1.1, .m p.1.2, .m p.2.1.1, .m p.2.1.2, .c (.int .u64 0), .c (.int .u64 0), .c (.int .u64 0), .c (.int .u64 0), .c (.int .u64 0), .c (.int .u64 0), .c (.int .u64 0), .c (.int .u64 0), .c (.int .u64 0), .c (.int .u64 0), .c (.int .u64 0), .c (.int .u64 0), .m (pX p 1).1.1, .m (pX p 1).1.2, .m (pX p 1).2.1.1, .m (pX p 1).2.1.2, .m (pX p 1).2.2.1, .m (pX p 1).2.2.2, .m (pX p 2).1.1, .m (pX p 2).1.2, .m (pX p 2).2.1.1, .m (pX p 2).2.1.2, .m (pX p 2).2.2.1, .m (pX p 2).2.2.2, .m (pX p 3).1.1, .m (pX p 3).1.2, .m (pX p 3).2.1.1, .m (pX p 3).2.1.2, .m (pX p 3).2.2.1, .m (pX p 3).2.2.2, .m (pX p 4).1.1, .m (pX p 4).1.2, .m (pX p 4).2.1.1, .m (pX p 4).2.1.2, .m (pX p 4).2.2.1, .m (pX p 4).2.2.2, .m (pX p 5).1.1, .m (pX p 5).1.2, .m (pX p 5).2.1.1, .m (pX p 5).2.1.2, .m (pX p 5).2.2.1, .m (pX p 5).2.2.2, .m (pX p 6).1.1, .m (pX p 6).1.2, .m (pX p 6).2.1.1, .m (pX p 6).2.1.2, .m (pX p 6).2.2.1, .m (pX p 6).2.2.2, .m (pX p 7).1.1, .m (pX p 7).1.2, .m (pX p 7).2.1.1, .m (pX p 7).2.1.2, .m (pX p 7).2.2.1, .m (pX p 7).2.2.2, .m (pX p 8).1.1, .m (pX p 8).1.2, .m (pX p 8).2.1.1, .m (pX p 8).2.1.2, .m (pX p 8).2.2.1, .m (pX p 8).2.2.2, .m (pX p 9).1.1, .m (pX p 9).1.2, .m (pX p 9).2.1.1, .m (pX p 9).2.1.2, .m (pX p 9).2.2.1, .m (pX p 9).2.2.2, .m (pX p 10).1.1, .m (pX p 10).1.2, .m (pX p 10).2.1.1, .m (pX p 10).2.1.2, .m (pX p 10).2.2.1, .m (pX p 10).2.2.2, .m (pX p 11).1.1, .m (pX p 11).1.2, .m (pX p 11).2.1.1, .m (pX p 11).2.1.2, .m (pX p 11).2.2.1, .m (pX p 11).2.2.2, .m (pX p 12).1.1, .m (pX p 12).1.2, .m (pX p 12).2.1.1, .m (pX p 12).2.1.2, .m (pX p 12).2.2.1, .m (pX p 12).2.2.2, .m (pX p 13).1.1, .m (pX p 13).1.2, .m (pX p 13).2.1.1, .m (pX p 13).2.1.2, .m (pX p 13).2.2.1, .m (pX p 13).2.2.2, .m (pX p 14).1.1, .m (pX p 14).1.2, .m (pX p 14).2.1.1, .m (pX p 14).2.1.2, .m (pX p 14).2.2.1, .m (pX p 14).2.2.2, .m (pX p 15).1.1, .m (pX p 15).1.2, .m (pX p 15).2.1.1, .m (pX p 15).2.1.2, .m (pX p 15).2.2.1, .m (pX p 15).2.2.2]
theorem SP (p : Pt2) : (flat (pc2 p)).length = 36 := by rw [vk]; rfl
theorem Jy (p : Pt2) : flat (CX p) = (List.range 16).flatMap (fun j => flat (pc2 (pX p j))) := by
 have e0 : flat (pc2 (pX p 0)) = flat [.m p.1.1, .m p.1.2, .m p.2.1.1, .m p.2.1.2, .c (.int .u64 0), .c (.int .u64 0), .c (.int .u64 0), .c (.int .u64 0), .c (.int .u64 0), .c (.int .u64 0), .c (.int .u64 0), .c (.int .u64 0), .c (.int .u64 0), .c (.int .u64 0), .c (.int .u64 0), .c (.int .u64 0)] := by
  show flat ([.m p.1.1, .m p.1.2, .m p.2.1.1, .m p.2.1.2] ++ m2 ((0, 0) : F2)) = flat ([.m p.1.1, .m p.1.2, .m p.2.1.1, .m p.2.1.2] ++ [.c (.int .u64 0), .c (.int .u64 0), .c (.int .u64 0), .c (.int .u64 0), .c (.int .u64 0), .c (.int .u64 0), .c (.int .u64 0), .c (.int .u64 0), .c (.int .u64 0), .c (.int .u64 0), .c (.int .u64 0), .c (.int .u64 0)])
  rw [p8, p8, Ad]
 have e1 : CX p = [.m p.1.1, .m p.1.2, .m p.2.1.1, .m p.2.1.2, .c (.int .u64 0), .c (.int .u64 0), .c (.int .u64 0), .c (.int .u64 0), .c (.int .u64 0), .c (.int .u64 0), .c (.int .u64 0), .c (.int .u64 0), .c (.int .u64 0), .c (.int .u64 0), .c (.int .u64 0), .c (.int .u64 0)] ++ (pc2 (pX p 1) ++ (pc2 (pX p 2) ++ (pc2 (pX p 3) ++ (pc2 (pX p 4) ++ (pc2 (pX p 5) ++ (pc2 (pX p 6) ++ (pc2 (pX p 7) ++ (pc2 (pX p 8) ++ (pc2 (pX p 9) ++ (pc2 (pX p 10) ++ (pc2 (pX p 11) ++ (pc2 (pX p 12) ++ (pc2 (pX p 13) ++ (pc2 (pX p 14) ++ pc2 (pX p 15))))))))))))))) := rfl
 rw [e1]
 simp only [p8, ← e0]
 simp [List.range_succ_eq_map, List.flatMap]
theorem Hz (p : Pt2) (j : Nat) (h : j < 16) : ((flat (CX p)).drop (0 + j * 36)).take 36 = flat (pc2 (pX p j)) := by
 rw [Nat.zero_add, Jy]
 exact Am (fun j => flat (pc2 (pX p j))) 36 (fun j => SP _) 16 j h
def vO (r : Array Tmp × Code × Code) (p : Pt2) (k : Nat) (b : Bool) (z : Int) (o : List Ch) : LState := { n := 32, sl := [(0, .yd 235), (1, .p 230 0), (3, .v (.bool b)), (4, vi0 z)], hp := [(0, .own (pc2 p) 114), (1, .own [.n 4 k] 28), (2, .own [.c (.int .u64 0), .c (.int .u64 0), .c (.int .u64 0), .c (.int .u64 0), .c (.int .u64 0), .c (.int .u64 0), .c (.int .u64 0), .c (.int .u64 0), .c (.int .u64 0), .c (.int .u64 0), .c (.int .u64 0), .c (.int .u64 0), .c (.int .u64 0), .c (.int .u64 0), .c (.int .u64 0), .c (.int .u64 0), .c (.int .u64 0), .c (.int .u64 0), .c (.int .u64 0), .c (.int .u64 0), .c (.int .u64 0), .c (.int .u64 0), .c (.int .u64 0), .c (.int .u64 0), .c (.int .u64 0), .c (.int .u64 0), .c (.int .u64 0), .c (.int .u64 0), .c (.int .u64 0), .c (.int .u64 0), .c (.int .u64 0), .c (.int .u64 0), .c (.int .u64 0), .c (.int .u64 0), .c (.int .u64 0), .c (.int .u64 0)] 114), (3, .own (CX p) 164), (226, .own o 114), (230, .own [.n 4 k] 28), (234, .dfd),
 (235, .lp .ready none ⟨43, .any, trOf [(5, .p 3 0), (7, .p 226 0)]⟩ r.1 r.2.1 r.2.2 234)] }
def P6 (r : Array Tmp × Code × Code) (p : Pt2) (k : Nat) (o : List Ch) : LState := { n := 32, sl := [], hp := [(0, .own (pc2 p) 114), (1, .own [.n 4 k] 28), (2, .own [.c (.int .u64 0), .c (.int .u64 0), .c (.int .u64 0), .c (.int .u64 0), .c (.int .u64 0), .c (.int .u64 0), .c (.int .u64 0), .c (.int .u64 0), .c (.int .u64 0), .c (.int .u64 0), .c (.int .u64 0), .c (.int .u64 0), .c (.int .u64 0), .c (.int .u64 0), .c (.int .u64 0), .c (.int .u64 0), .c (.int .u64 0), .c (.int .u64 0), .c (.int .u64 0), .c (.int .u64 0), .c (.int .u64 0), .c (.int .u64 0), .c (.int .u64 0), .c (.int .u64 0), .c (.int .u64 0), .c (.int .u64 0), .c (.int .u64 0), .c (.int .u64 0), .c (.int .u64 0), .c (.int .u64 0), .c (.int .u64 0), .c (.int .u64 0), .c (.int .u64 0), .c (.int .u64 0), .c (.int .u64 0), .c (.int .u64 0)] 114), (3, .own (CX p) 164), (226, .own o 114), (230, .own [.n 4 k] 28), (234, .dfd),
 (235, .lp .ready none ⟨43, .any, trOf [(5, .p 3 0), (7, .p 226 0)]⟩ r.1 r.2.1 r.2.2 234)] }
theorem abJ (p q : Pt2) (k i : Nat) (hi : i < 64)  : Sound prog 236 false (pS f117 0) (vO (pT f49 0) p k true ((((i + 1 : Nat) : Int)) - 1) (pc2 q)).aa .normal (vO (pT f49 0) p k true (((i : Nat) : Int) - 1) (pc2 (zV (sq (sq (sq (sq q)))) (pX p (dig k i))))).aa := by
 have hs := pR (P := prog) (X := qC _) (env := [tU, zS]) ⟨sd, wK, tt0⟩ (n := 2) (os := oL [(239, wO 1), (242, rO 2 (i / 16)), (243, rO 3 0), (247, rO 4 (4 * (i % 16))), (249, { ch := 1, hi := fun _ => dig k i }), (291, rO 2 (dig k i)), (292, { ch := 0, hi := fun _ => 0, ru := 8, cs := fun _ => pc2 (pX p (dig k i)) })]) (fb := 236) (rd := false) (c := pS f117 0) (k := 238) (I := vO (pT f49 0) p k true ((((i + 1 : Nat) : Int)) - 1) (pc2 q)) (sk := [0, 1, 3, 4]) (hk := [0, 1, 2, 3, 226, 230, 234, 235]) (lk := [(235, [5, 7])]) (ex := .normal)
  (L := vO (pT f49 0) p k true (IntKind.i64.wrap ((((i + 1 : Nat) : Int) - 1) - 1)) (pc2 (zV (sq (sq (sq (sq q)))) (pX p (dig k i))))) (by kernel_rfl) (ai (show qd (pc2 (pX p (dig k i))) = 36 /\ ((flat (CX p)).drop (0 + dig k i * 36)).take 36 = flat (pc2 (pX p (dig k i))) from ⟨rfl, Hz p _ (wq k i)⟩) (ai (show ((dig k i : Nat) : Int) = ((dig k i : Nat) : Int) /\ dig k i < 16 from ⟨rfl, wq k i⟩) (ai (Av k i) (ai (Bg i) (ai (show 0 + i / 16 * 1 < 4 from by omega) (ai (Ax i hi) (ai (show decide (((((i + 1 : Nat) : Int)) - 1) >= 0) = true from decide_eq_true (by omega)) tt0)))))))
 rw [show IntKind.i64.wrap ((((i + 1 : Nat) : Int) - 1) - 1) = ((i : Nat) : Int) - 1 by rw [p6]; omega] at hs
 exact hs
theorem acZ (p q : Pt2) (k i : Nat) (hi : i < 64) (hd : ((dig k i : Nat) : Int) > 0) : Sound prog 236 false (pS f117 0) (vO (pT f49 0) p k false ((((i + 1 : Nat) : Int)) - 1) (pc2 q)).aa .normal (vO (pT f49 0) p k true (((i : Nat) : Int) - 1) (pc2 (zV (sq (sq (sq (sq q)))) (pX p (dig k i))))).aa := by
 have hs := pR (P := prog) (X := qC _) (env := [tU, zS]) ⟨sd, wK, tt0⟩ (n := 2) (os := oL [(239, wO 1), (242, rO 2 (i / 16)), (243, rO 3 0), (247, rO 4 (4 * (i % 16))), (249, { ch := 1, hi := fun _ => dig k i }), (254, wO 1), (291, rO 2 (dig k i)), (292, { ch := 0, hi := fun _ => 0, ru := 8, cs := fun _ => pc2 (pX p (dig k i)) })]) (fb := 236) (rd := false) (c := pS f117 0) (k := 238) (I := vO (pT f49 0) p k false ((((i + 1 : Nat) : Int)) - 1) (pc2 q)) (sk := [0, 1, 3, 4]) (hk := [0, 1, 2, 3, 226, 230, 234, 235]) (lk := [(235, [5, 7])]) (ex := .normal)
  (L := vO (pT f49 0) p k true (IntKind.i64.wrap ((((i + 1 : Nat) : Int) - 1) - 1)) (pc2 (zV (sq (sq (sq (sq q)))) (pX p (dig k i))))) (by kernel_rfl) (ai (show qd (pc2 (pX p (dig k i))) = 36 /\ ((flat (CX p)).drop (0 + dig k i * 36)).take 36 = flat (pc2 (pX p (dig k i))) from ⟨rfl, Hz p _ (wq k i)⟩) (ai (show ((dig k i : Nat) : Int) = ((dig k i : Nat) : Int) /\ dig k i < 16 from ⟨rfl, wq k i⟩) (ai (show decide (((dig k i : Nat) : Int) > 0) = true from decide_eq_true hd) (ai (Av k i) (ai (Bg i) (ai (show 0 + i / 16 * 1 < 4 from by omega) (ai (Ax i hi) (ai (show decide (((((i + 1 : Nat) : Int)) - 1) >= 0) = true from decide_eq_true (by omega)) tt0))))))))
 rw [show IntKind.i64.wrap ((((i + 1 : Nat) : Int) - 1) - 1) = ((i : Nat) : Int) - 1 by rw [p6]; omega] at hs
 exact hs
theorem adC (p q : Pt2) (k i : Nat) (hi : i < 64) (hd : ¬ ((dig k i : Nat) : Int) > 0) : Sound prog 236 false (pS f117 0) (vO (pT f49 0) p k false ((((i + 1 : Nat) : Int)) - 1) (pc2 q)).aa .normal (vO (pT f49 0) p k false (((i : Nat) : Int) - 1) (pc2 q)).aa := by
 have hs := pR (P := prog) (X := qC _) (env := [tU, zS]) ⟨sd, wK, tt0⟩ (n := 2) (os := oL [(239, wO 1), (242, rO 2 (i / 16)), (243, rO 3 0), (247, rO 4 (4 * (i % 16))), (249, { ch := 1, hi := fun _ => dig k i }), (254, wO 2)]) (fb := 236) (rd := false) (c := pS f117 0) (k := 238) (I := vO (pT f49 0) p k false ((((i + 1 : Nat) : Int)) - 1) (pc2 q)) (sk := [0, 1, 3, 4]) (hk := [0, 1, 2, 3, 226, 230, 234, 235]) (lk := [(235, [5, 7])]) (ex := .normal)
  (L := vO (pT f49 0) p k false (IntKind.i64.wrap ((((i + 1 : Nat) : Int) - 1) - 1)) (pc2 q)) (by kernel_rfl) (ai (show decide (((dig k i : Nat) : Int) > 0) = false from decide_eq_false hd) (ai (Av k i) (ai (Bg i) (ai (show 0 + i / 16 * 1 < 4 from by omega) (ai (Ax i hi) (ai (show decide (((((i + 1 : Nat) : Int)) - 1) >= 0) = true from decide_eq_true (by omega)) tt0))))))
 rw [show IntKind.i64.wrap ((((i + 1 : Nat) : Int) - 1) - 1) = ((i : Nat) : Int) - 1 by rw [p6]; omega] at hs
 exact hs
theorem Uk (p q : Pt2) (k : Nat) (b : Bool) : Sound prog 236 false (pS f117 0) (vO (pT f49 0) p k b (((0 : Nat) : Int) - 1) (pc2 q)).aa (.exit 0) (P6 (pT f49 0) p k (pc2 q)).aa :=
 pR (P := prog) (X := qC _) (env := []) trivial (n := 2) (os := oL [(239, wO 2)]) (fb := 236) (rd := false) (c := pS f117 0) (k := 238) (I := vO (pT f49 0) p k b (((0 : Nat) : Int) - 1) (pc2 q)) (sk := []) (hk := [0, 1, 2, 3, 226, 230, 234, 235]) (lk := [(235, [5, 7])]) (ex := .exit 0)
  (L := P6 (pT f49 0) p k (pc2 q)) (by kernel_rfl) Qq.down
theorem O0 (p : Pt2) (k : Nat) (hk : k < 115792089237316195423570985008687907853269984665640564039457584007913129639936) (y : { i : Nat // i <= 64 }) : Sound prog 236 false (.loop (pS f117 0)) (vO (pT f49 0) p k (bgn k (64 - y.val)) (((y.val : Nat) : Int) - 1) (pc2 (xt p k (64 - y.val)))).aa (.exit 0) (P6 (pT f49 0) p k (pc2 (xt p k 64))).aa := by
 refine qk (m := fun y : { i : Nat // i <= 64 } => y.val) (fun y => vO (pT f49 0) p k (bgn k (64 - y.val)) (((y.val : Nat) : Int) - 1) (pc2 (xt p k (64 - y.val)))) (by simp) (fun y => ?_) y
 obtain ⟨i, hi⟩ := y
 cases i with
 | zero => exact .inr (Uk p _ k _)
 | succ i =>
  refine .inl ⟨⟨i, by omega⟩, Nat.lt_succ_self i, ?_⟩
  have e1 : 64 - i = (64 - (i + 1)) + 1 := by omega
  have e2 : 63 - (64 - (i + 1)) = i := by omega
  have hb := CF k (64 - (i + 1)) (by omega)
  rw [e2, ← e1] at hb
  have hm : xt p k (64 - i) = zV (sq (sq (sq (sq (xt p k (64 - (i + 1))))))) (pX p (dig k i)) := by
   rw [e1]
   show zV _ (pX p (dig k (63 - (64 - (i + 1))))) = _
   rw [e2]
  simp only
  rw [hm]
  cases hc : bgn k (64 - (i + 1)) with
  | true =>
   rw [hc] at hb
   simp only [Bool.true_or] at hb
   rw [hb]
   exact abJ p _ k i (by omega)
  | false =>
   rw [hc] at hb
   simp only [Bool.false_or] at hb
   by_cases hd : ((dig k i : Nat) : Int) > 0
   ·rw [hb, decide_eq_true (by omega)]
    exact acZ p _ k i (by omega) hd
   ·have h0 : dig k i = 0 := by omega
    rw [hb, decide_eq_false (by omega)]
    have hn := DL p k (64 - (i + 1)) (Gi hk _ (by omega) hc)
    rw [hn, h0, ue _ rfl, ue _ rfl, ue _ rfl, ue _ rfl, HZ _ _ rfl]
    exact adC p _ k i (by omega) hd
theorem Ud (p : Pt2) (k : Nat) (hk : k < 115792089237316195423570985008687907853269984665640564039457584007913129639936) : Sound prog 236 false (.loop (pS f117 0)) (vO (pT f49 0) p k false 63 [.m p.1.1, .m p.1.2, .m p.2.1.1, .m p.2.1.2, .c (.int .u64 0), .c (.int .u64 0), .c (.int .u64 0), .c (.int .u64 0), .c (.int .u64 0), .c (.int .u64 0), .c (.int .u64 0), .c (.int .u64 0), .c (.int .u64 0), .c (.int .u64 0), .c (.int .u64 0), .c (.int .u64 0)]).aa (.exit 0) (P6 (pT f49 0) p k (pc2 (xt p k 64))).aa := by
 have hl := O0 p k hk ⟨64, Nat.le_refl _⟩
 simp only [Nat.sub_self, G8 hk] at hl
 refine Sound.pre (J := vO (pT f49 0) p k false (((64 : Nat) : Int) - 1) (pc2 (xt p k 0))) hl [] (by kernel_rfl) ?_
 have e0 : flat [.m p.1.1, .m p.1.2, .m p.2.1.1, .m p.2.1.2, .c (.int .u64 0), .c (.int .u64 0), .c (.int .u64 0), .c (.int .u64 0), .c (.int .u64 0), .c (.int .u64 0), .c (.int .u64 0), .c (.int .u64 0), .c (.int .u64 0), .c (.int .u64 0), .c (.int .u64 0), .c (.int .u64 0)] = flat (pc2 (xt p k 0)) := by
  symm
  show flat ([.m p.1.1, .m p.1.2, .m p.2.1.1, .m p.2.1.2] ++ m2 ((0, 0) : F2)) = flat ([.m p.1.1, .m p.1.2, .m p.2.1.1, .m p.2.1.2] ++ [.c (.int .u64 0), .c (.int .u64 0), .c (.int .u64 0), .c (.int .u64 0), .c (.int .u64 0), .c (.int .u64 0), .c (.int .u64 0), .c (.int .u64 0), .c (.int .u64 0), .c (.int .u64 0), .c (.int .u64 0), .c (.int .u64 0)])
  rw [p8, p8, Ad]
 exact ⟨⟨rfl, rr0, rfl, rfl, tt0⟩, ⟨rr0, rr0, rr0, rr0, ⟨rfl, e0⟩, rr0, tt0, ⟨⟨rfl, rfl, rfl, rfl, rfl, rfl, rfl⟩, vz (by kernel_rfl)⟩, tt0⟩⟩
abbrev P9 (p : Pt2) : List Ch := [.m p.1.1, .m p.1.2, .m p.2.1.1, .m p.2.1.2, .c (.int .u64 0), .c (.int .u64 0), .c (.int .u64 0), .c (.int .u64 0), .c (.int .u64 0), .c (.int .u64 0), .c (.int .u64 0), .c (.int .u64 0), .c (.int .u64 0), .c (.int .u64 0), .c (.int .u64 0), .c (.int .u64 0)]
theorem adl (p : Pt2) (k : Nat) (hk : Qu k) : Gives prog 49 [.t (.ag (pc2 p)), .t (.ag [.n 4 k])] (.ag (pc2 (xt p k 64))) :=
 pL (P := prog) (X := qC _) (env := [tU, zS]) ⟨sd, wK, tt0⟩ func49 2 (oL [(238, lpO { I := vO (pT f49 0) p k false 63 (P9 p), ex := .exit 0, E := P6 (pT f49 0) p k (pc2 (xt p k 64)), fr := 239, lk := [(235, [5, 7])] })]) (by kernel_rfl) ⟨_, rfl⟩ (ai (show some (vO (pT f49 0) p k false 63 (P9 p)) = some (vO (pT f49 0) p k false 63 (P9 p)) from rfl) (ai (Ud p k hk) tt0))
def FR : Entry := sH 49 GR.x yR.x (fun p k => [(some (k < 115792089237316195423570985008687907853269984665640564039457584007913129639936), .ag (pc2 (xt p k 64)))])
theorem An : FR.OK prog := qS (fun args w => Go.Proofs.enters_of (P := prog) func49 (by kernel_rfl) rfl args w) (fun p k => rT (fun h => adl p k h))
end Go.Proofs.YtokjhbmmdmeafaaGreat
set_option linter.unusedSimpArgs false
set_option linter.unusedVariables false
namespace Go.Proofs.YtokjhbmmdmeafaaGreat
open Go.Ev Go.RowKit
open Tryz
theorem HB {a b : F2} (e : flat (m2 a) = flat (m2 b)) : a = b := by
 have := xW [a.1, a.2] [b.1, b.2] rfl e
 simp only [List.cons.injEq, and_true] at this
 exact vL this.1 this.2
abbrev A9 (x : N2) : List Ch := [.q (of2 x).1, .q (of2 x).2]
theorem Vz (x y : N2) (hx : qe x) (hy : qe y) (h : ¬ flat (A9 x) = flat [.n 6 x.1, .n 6 x.2]) : Gives prog 86 [.t (.ag [.n 6 x.1, .n 6 x.2, .n 6 y.1, .n 6 y.2, .c (.bool false)])] (.v (.bool false)) :=
 pI (P := prog) (env := [AD, zy, rM, sN, tl]) ⟨tV, uL, qM, qZ, qz, tt0⟩ func86 1 (oL [(23, wO 1)]) (by kernel_rfl) (ai (show ¬ flat (A9 x) = flat [.n 6 x.1, .n 6 x.2] from h) (ai (show qe y from hy) (ai (show qe x from hx) tt0)))
def RX {x : N2} (y : N2) (hx : qe x) (hy : qe y) (h : flat [.q (of2 x).1, .q (of2 x).2] = flat [.n 6 x.1, .n 6 x.2]) := PLift.up (ai (show flat (A9 x) = flat [.n 6 x.1, .n 6 x.2] from h) (ai (show qe y from hy) (ai (show qe x from hx) tt0)))
abbrev AS (y : N2) : List Ch := [.q (of2 y).1, .q (of2 y).2]
theorem Vh (x y : N2) (hx : qe x) (hy : qe y) (h : flat (A9 x) = flat [.n 6 x.1, .n 6 x.2]) (h2 : ¬ flat (AS y) = flat [.n 6 y.1, .n 6 y.2]) : Gives prog 86 [.t (.ag [.n 6 x.1, .n 6 x.2, .n 6 y.1, .n 6 y.2, .c (.bool false)])] (.v (.bool false)) :=
 pI (P := prog) (env := [AD, zy, rM, sN, tl]) ⟨tV, uL, qM, qZ, qz, tt0⟩ func86 1 (oL [(23, wO 0), (29, wO 1)]) (by kernel_rfl) (ai (show ¬ flat (AS y) = flat [.n 6 y.1, .n 6 y.2] from h2)
   (RX y hx hy h).down)
abbrev LA (x : N2) := qV (pZ (pZ (of2 x) (of2 x)) (of2 x)) (ofP (4 % 18446744073709551616), ofP (4 % 18446744073709551616))
theorem UL (x y : N2) (hx : qe x) (hy : qe y) (h : flat (A9 x) = flat [.n 6 x.1, .n 6 x.2]) (h2 : flat (AS y) = flat [.n 6 y.1, .n 6 y.2]) (h3 : ¬ flat (m2 (pZ (of2 y) (of2 y))) = flat (m2 (LA x))) : Gives prog 86 [.t (.ag [.n 6 x.1, .n 6 x.2, .n 6 y.1, .n 6 y.2, .c (.bool false)])] (.v (.bool false)) :=
 pI (P := prog) (env := [AD, zy, rM, sN, tl]) ⟨tV, uL, qM, qZ, qz, tt0⟩ func86 1 (oL [(23, wO 0), (29, wO 0), (42, wO 1)]) (by kernel_rfl) (ai (show ¬ flat (m2 (pZ (of2 y) (of2 y))) = flat (m2 (LA x)) from h3) (ai (show flat (AS y) = flat [.n 6 y.1, .n 6 y.2] from h2)
   (RX y hx hy h).down))
theorem aaf (x y : N2) (hx : qe x) (hy : qe y) (h : flat (A9 x) = flat [.n 6 x.1, .n 6 x.2]) (h2 : flat (AS y) = flat [.n 6 y.1, .n 6 y.2]) (h3 : flat (m2 (pZ (of2 y) (of2 y))) = flat (m2 (LA x))) : Gives prog 86 [.t (.ag [.n 6 x.1, .n 6 x.2, .n 6 y.1, .n 6 y.2, .c (.bool false)])] (.v (.bool true)) :=
 pI (P := prog) (env := [AD, zy, rM, sN, tl]) ⟨tV, uL, qM, qZ, qz, tt0⟩ func86 1 (oL [(23, wO 0), (29, wO 0), (42, wO 0)]) (by kernel_rfl) (ai (show flat (m2 (pZ (of2 y) (of2 y))) = flat (m2 (LA x)) from h3) (ai (show flat (AS y) = flat [.n 6 y.1, .n 6 y.2] from h2)
   (RX y hx hy h).down))
abbrev LE : List Ch := [.c (.int .u64 0), .c (.int .u64 0), .c (.int .u64 0), .c (.int .u64 0), .c (.int .u64 0), .c (.int .u64 0), .c (.int .u64 0), .c (.int .u64 0), .c (.int .u64 0), .c (.int .u64 0), .c (.int .u64 0), .c (.int .u64 0), .c (.int .u64 0), .c (.int .u64 0), .c (.int .u64 0), .c (.int .u64 0), .c (.int .u64 0), .c (.int .u64 0), .c (.int .u64 0), .c (.int .u64 0), .c (.int .u64 0), .c (.int .u64 0), .c (.int .u64 0), .c (.int .u64 0), .c (.bool true)]
abbrev Fc (x : N2) (y : N2) : List Ch := [.n 6 x.1, .n 6 x.2, .n 6 y.1, .n 6 y.2, .c (.bool true)]
theorem U3 (x y : N2) (h : flat (Fc x y) = flat LE) : Gives prog 86 [.t (.ag [.n 6 x.1, .n 6 x.2, .n 6 y.1, .n 6 y.2, .c (.bool true)])] (.v (.bool true)) :=
 pI (P := prog) (env := [AD, zy, rM, sN, tl]) ⟨tV, uL, qM, qZ, qz, tt0⟩ func86 1 (oL [(6, wO 0)]) (by kernel_rfl) (ai (show flat (Fc x y) = flat LE from h) tt0)
theorem Vj (x y : N2) (h : ¬ flat (Fc x y) = flat LE) : Gives prog 86 [.t (.ag [.n 6 x.1, .n 6 x.2, .n 6 y.1, .n 6 y.2, .c (.bool true)])] (.v (.bool false)) :=
 pI (P := prog) (env := [AD, zy, rM, sN, tl]) ⟨tV, uL, qM, qZ, qz, tt0⟩ func86 1 (oL [(6, wO 1)]) (by kernel_rfl) (ai (show ¬ flat (Fc x y) = flat LE from h) tt0)
theorem CV (x y : N2) : flat (m2 (pZ (of2 y) (of2 y))) = flat (m2 (qV (pZ (pZ (of2 x) (of2 x)) (of2 x)) (ofP (4 % 18446744073709551616), ofP (4 % 18446744073709551616)))) ↔ pZ (of2 y) (of2 y) = sv (of2 x) := by
 rw [show (4 % 18446744073709551616 : Nat) = 4 from rfl]
 unfold sv
 exact ⟨fun e => HB e, fun e => by rw [e]⟩
theorem VM (a : A2) (hs : sml2 a) (h : may2 a) : Gives prog 86 [.t (.ag [.n 6 a.1.1, .n 6 a.1.2, .n 6 a.2.1.1, .n 6 a.2.1.2, .c (.bool a.2.2)])] (.v (.bool true)) := by
 obtain ⟨x, y, b⟩ := a
 obtain ⟨hx, hy⟩ := hs
 cases b with
 | true => exact U3 x y ((EN hx hy true).2 (by simpa only [may2, if_true] using h))
 | false =>
  have h : is2 x /\ is2 y /\ pZ (of2 y) (of2 y) = sv (of2 x) := h
  exact aaf x y hx hy ((uK hx).2 h.1) ((uK hy).2 h.2.1) ((CV x y).2 h.2.2)
theorem V1 (a : A2) (hs : sml2 a) (h : ¬ may2 a) : Gives prog 86 [.t (.ag [.n 6 a.1.1, .n 6 a.1.2, .n 6 a.2.1.1, .n 6 a.2.1.2, .c (.bool a.2.2)])] (.v (.bool false)) := by
 obtain ⟨x, y, b⟩ := a
 obtain ⟨hx, hy⟩ := hs
 cases b with
 | true => exact Vj x y (fun e => h (by simpa only [may2, if_true] using (EN hx hy true).1 e))
 | false =>
  have h : ¬ (is2 x /\ is2 y /\ pZ (of2 y) (of2 y) = sv (of2 x)) := h
  by_cases h1 : is2 x
  ·by_cases h2 : is2 y
   ·exact UL x y hx hy ((uK hx).2 h1) ((uK hy).2 h2) (fun e => h ⟨h1, h2, (CV x y).1 e⟩)
   ·exact Vh x y hx hy ((uK hx).2 h1) (fun e => h2 ((uK hy).1 e))
  ·exact Vz x y hx hy (fun e => h1 ((uK hx).1 e))
def LR (a : A2) : ug := [(some (sml2 a /\ may2 a), .v (.bool true)), (some (sml2 a /\ ¬ may2 a), .v (.bool false))]
theorem Hj {f : FuncId} {args : A2 -> List XV} (h1 : ∀ a, sml2 a -> may2 a -> Gives prog f (args a) (.v (.bool true))) (h2 : ∀ a, sml2 a -> ¬ may2 a -> Gives prog f (args a) (.v (.bool false))) : ∀ a c r, (c, r) ∈ LR a -> c.getD True -> Gives prog f (args a) r := by
 intro a c r hm hc
 simp only [LR, List.mem_cons, pi0, List.not_mem_nil, or_false] at hm
 rcases hm with ⟨rfl, rfl⟩ | ⟨rfl, rfl⟩
 ·exact h1 a hc.1 hc.2
 ·exact h2 a hc.1 hc.2
def ZZ : Entry := p7 86 Io.x LR
theorem Mg : ZZ.OK prog := pQ (fun args w => Go.Proofs.enters_of (P := prog) func86 (by kernel_rfl) rfl args w) (Hj VM V1)
def FU (a : A2) (hs : sml2 a) (h : may2 a) := PLift.up (ai (show sml2 a /\ may2 a from ⟨hs, h⟩) tt0)
theorem O2 (a : A2) (hs : sml2 a) (h : may2 a) : Gives prog 47 [.t (.ag [.n 6 a.1.1, .n 6 a.1.2, .n 6 a.2.1.1, .n 6 a.2.1.2, .c (.bool a.2.2)])] (.v (.bool true)) :=
 pI (P := prog) (env := [ZZ]) ⟨Mg, tt0⟩ func47 0 (oL [(3, wO 0)]) (by kernel_rfl) (FU a hs h).down
theorem OT (a : A2) (hs : sml2 a) (h : ¬ may2 a) : Gives prog 47 [.t (.ag [.n 6 a.1.1, .n 6 a.1.2, .n 6 a.2.1.1, .n 6 a.2.1.2, .c (.bool a.2.2)])] (.v (.bool false)) :=
 pI (P := prog) (env := [ZZ]) ⟨Mg, tt0⟩ func47 0 (oL [(3, wO 1)]) (by kernel_rfl) (ai (show sml2 a /\ ¬ may2 a from ⟨hs, h⟩) tt0)
def BE : Entry := p7 47 Io.x LR
theorem xf : BE.OK prog := pQ (fun args w => Go.Proofs.enters_of (P := prog) func47 (by kernel_rfl) rfl args w) (Hj O2 OT)
theorem VB (x y : N2) : Gives prog 48 [.t (.ag [.n 6 x.1, .n 6 x.2, .n 6 y.1, .n 6 y.2, .c (.bool true)])] (.ag [.m (ofP (1 % 18446744073709551616)), .c (.int .u64 0), .c (.int .u64 0), .c (.int .u64 0), .c (.int .u64 0), .c (.int .u64 0), .c (.int .u64 0), .m (ofP (1 % 18446744073709551616)), .c (.int .u64 0), .c (.int .u64 0), .c (.int .u64 0), .c (.int .u64 0), .c (.int .u64 0), .c (.int .u64 0), .c (.int .u64 0), .c (.int .u64 0), .c (.int .u64 0), .c (.int .u64 0), .c (.int .u64 0), .c (.int .u64 0), .c (.int .u64 0), .c (.int .u64 0), .c (.int .u64 0), .c (.int .u64 0), .c (.int .u64 0), .c (.int .u64 0)]) :=
 pI (P := prog) (env := [AD, tl]) ⟨tV, qz, tt0⟩ func48 0 (oL []) (by kernel_rfl) trivial
theorem UX (x y : N2) (hx : qe x) (hy : qe y) : Gives prog 48 [.t (.ag [.n 6 x.1, .n 6 x.2, .n 6 y.1, .n 6 y.2, .c (.bool false)])] (.ag [.m (of2 x).1, .m (of2 x).2, .m (of2 y).1, .m (of2 y).2, .m (ofP (1 % 18446744073709551616)), .c (.int .u64 0), .c (.int .u64 0), .c (.int .u64 0), .c (.int .u64 0), .c (.int .u64 0), .c (.int .u64 0)]) :=
 pI (P := prog) (env := [AD, tl]) ⟨tV, qz, tt0⟩ func48 0 (oL []) (by kernel_rfl) (ai (show qe y from hy) (ai (show qe x from hx) tt0))
theorem PN (x y : N2) : in2 (x, y, false) = (of2 x, of2 y, (1, 0)) := by unfold in2; exact if_neg (by simp)
theorem Tx (x y : N2) : in2 (x, y, true) = ((1, 0), (1, 0), (0, 0)) := by unfold in2; exact if_pos rfl
theorem Pu : flat [.m (ofP (1 % 18446744073709551616)), .c (.int .u64 0), .c (.int .u64 0), .c (.int .u64 0), .c (.int .u64 0), .c (.int .u64 0), .c (.int .u64 0)] = flat [.m (1 : Fin Pp), .m 0] := by kernel_rfl
theorem YJ : flat [.c (.int .u64 0), .c (.int .u64 0), .c (.int .u64 0), .c (.int .u64 0), .c (.int .u64 0), .c (.int .u64 0), .c (.int .u64 0), .c (.int .u64 0), .c (.int .u64 0), .c (.int .u64 0), .c (.int .u64 0), .c (.int .u64 0)] = flat [.m (0 : Fin Pp), .m 0] := by kernel_rfl
theorem MF (x y : F2) : flat [.m x.1, .m x.2, .m y.1, .m y.2, .m (ofP (1 % 18446744073709551616)), .c (.int .u64 0), .c (.int .u64 0), .c (.int .u64 0), .c (.int .u64 0), .c (.int .u64 0), .c (.int .u64 0)] = flat (pc2 (x, y, (1, 0))) := by
 show flat ([.m x.1, .m x.2, .m y.1, .m y.2] ++ [.m (ofP (1 % 18446744073709551616)), .c (.int .u64 0), .c (.int .u64 0), .c (.int .u64 0), .c (.int .u64 0), .c (.int .u64 0), .c (.int .u64 0)]) = flat ([.m x.1, .m x.2, .m y.1, .m y.2] ++ [.m (1 : Fin Pp), .m 0])
 rw [p8, p8, Pu]
theorem M9 : flat [.m (ofP (1 % 18446744073709551616)), .c (.int .u64 0), .c (.int .u64 0), .c (.int .u64 0), .c (.int .u64 0), .c (.int .u64 0), .c (.int .u64 0), .m (ofP (1 % 18446744073709551616)), .c (.int .u64 0), .c (.int .u64 0), .c (.int .u64 0), .c (.int .u64 0), .c (.int .u64 0), .c (.int .u64 0), .c (.int .u64 0), .c (.int .u64 0), .c (.int .u64 0), .c (.int .u64 0), .c (.int .u64 0), .c (.int .u64 0), .c (.int .u64 0), .c (.int .u64 0), .c (.int .u64 0), .c (.int .u64 0), .c (.int .u64 0), .c (.int .u64 0)] = flat (pc2 ((1, 0), (1, 0), (0, 0))) := by
 show flat ([.m (ofP (1 % 18446744073709551616)), .c (.int .u64 0), .c (.int .u64 0), .c (.int .u64 0), .c (.int .u64 0), .c (.int .u64 0), .c (.int .u64 0)] ++ ([.m (ofP (1 % 18446744073709551616)), .c (.int .u64 0), .c (.int .u64 0), .c (.int .u64 0), .c (.int .u64 0), .c (.int .u64 0), .c (.int .u64 0)] ++ [.c (.int .u64 0), .c (.int .u64 0), .c (.int .u64 0), .c (.int .u64 0), .c (.int .u64 0), .c (.int .u64 0), .c (.int .u64 0), .c (.int .u64 0), .c (.int .u64 0), .c (.int .u64 0), .c (.int .u64 0), .c (.int .u64 0)])) = flat ([.m (1 : Fin Pp), .m 0] ++ ([.m (1 : Fin Pp), .m 0] ++ [.m (0 : Fin Pp), .m 0]))
 simp only [p8]
 rw [Pu, YJ]
theorem agq (a : A2) (hs : sml2 a) : Gives prog 48 [.t (.ag [.n 6 a.1.1, .n 6 a.1.2, .n 6 a.2.1.1, .n 6 a.2.1.2, .c (.bool a.2.2)])] (.ag (pc2 (in2 a))) := by
 obtain ⟨x, y, b⟩ := a
 obtain ⟨hx, hy⟩ := hs
 cases b with
 | true => rw [Tx x y]; exact Gives.same (VB x y) (ry rfl rfl M9).symm
 | false => rw [PN x y]; exact Gives.same (UX x y hx hy) (ry rfl rfl (MF _ _)).symm
def L0 : Entry := p7 48 Io.x (fun a => [(some (sml2 a), .ag (pc2 (in2 a)))])
theorem CW : L0.OK prog := pQ (fun args w => Go.Proofs.enters_of (P := prog) func48 (by kernel_rfl) rfl args w) (fun a => rT (fun h => agq a h))
def Uy : Entry := zq 50 [(none, .ag [.c (.int .u64 18446744069414584321), .c (.int .u64 6034159408538082302), .c (.int .u64 3691218898639771653), .c (.int .u64 8353516859464449352)])]
theorem Fb : Uy.OK prog := vV (fun args w => Go.Proofs.enters_of (P := prog) func50 (by kernel_rfl) rfl args w)
 (only (pI (P := prog) (env := []) trivial func50 0 o0 (by kernel_rfl) tt0))
theorem P7 (a : A2) (hs : sml2 a) (h : may2 a) (g : q6 a) : Gives prog 21 [.t (.ag [.n 6 a.1.1, .n 6 a.1.2, .n 6 a.2.1.1, .n 6 a.2.1.2, .c (.bool a.2.2)])] (.v (.bool true)) :=
 pI (P := prog) (env := [BE, L0, Uy, FR, xI]) ⟨xf, CW, Fb, An, sS, tt0⟩ func21 0 (oL [(3, wO 0), (10, wO 0)]) (by kernel_rfl) (ai (show (xt (in2 a) Rr 64).2.2 = (0, 0) from g) (ai Ll (ai (show sml2 a from hs)
   (FU a hs h).down)))
theorem SA (a : A2) (hs : sml2 a) (h : may2 a) (g : ¬ q6 a) : Gives prog 21 [.t (.ag [.n 6 a.1.1, .n 6 a.1.2, .n 6 a.2.1.1, .n 6 a.2.1.2, .c (.bool a.2.2)])] (.v (.bool false)) :=
 pI (P := prog) (env := [BE, L0, Uy, FR, xI]) ⟨xf, CW, Fb, An, sS, tt0⟩ func21 0 (oL [(3, wO 0), (10, wO 1)]) (by kernel_rfl) (ai (show ¬ (xt (in2 a) Rr 64).2.2 = (0, 0) from g) (ai Ll (ai (show sml2 a from hs)
   (FU a hs h).down)))
theorem V0 (a : A2) (hs : sml2 a) (h : ¬ may2 a) : Gives prog 21 [.t (.ag [.n 6 a.1.1, .n 6 a.1.2, .n 6 a.2.1.1, .n 6 a.2.1.2, .c (.bool a.2.2)])] (.v (.bool false)) :=
 pI (P := prog) (env := [BE, L0, Uy, FR, xI]) ⟨xf, CW, Fb, An, sS, tt0⟩ func21 0 (oL [(3, wO 1)]) (by kernel_rfl) (ai (show sml2 a /\ ¬ may2 a from ⟨hs, h⟩) tt0)
def DA : Entry := p7 21 Io.x (fun a => [(some (sml2 a /\ may2 a /\ q6 a), .v (.bool true)), (some (sml2 a /\ may2 a /\ ¬ q6 a), .v (.bool false)), (some (sml2 a /\ ¬ may2 a), .v (.bool false))])
theorem DD : DA.OK prog := pQ (fun args w => Go.Proofs.enters_of (P := prog) func21 (by kernel_rfl) rfl args w) (fun a c r hm hc => by
 simp only [List.mem_cons, pi0, List.not_mem_nil, or_false] at hm
 rcases hm with ⟨rfl, rfl⟩ | ⟨rfl, rfl⟩ | ⟨rfl, rfl⟩
 ·exact P7 a hc.1 hc.2.1 hc.2.2
 ·exact SA a hc.1 hc.2.1 hc.2.2
 ·exact V0 a hc.1 hc.2)
end Go.Proofs.YtokjhbmmdmeafaaGreat
set_option linter.unusedSimpArgs false
set_option linter.unusedVariables false
namespace Go.Proofs.YtokjhbmmdmeafaaGreat
open Go.Ev Go.RowKit
open Tryz
theorem MI (a : N2) (h : qe a) : Gives prog 116 [.t (.ag [.n 6 a.1, .n 6 a.2])] (.v (.string (ofL (b2 (of2 a))))) :=
 pL (P := prog) (X := qC _) (env := [GC]) ⟨EE, tt0⟩ func116 0 (oL [(8, { ch := 0, hi := fun _ => 0, ru := 6 })]) (by kernel_rfl) ⟨_, rfl⟩ (ai (show 48 + 48 <= 9223372036854775807 by decide) (ai (show DE (.inr a.1) from h.1) (ai (show DE (.inr a.2) from h.2) tt0)))
def Kx : Entry := p7 116 Ly.x (fun a => [(some (qe a), .v (.string (ofL (b2 (of2 a)))))])
theorem M6 : Kx.OK prog := pQ (fun args w => Go.Proofs.enters_of (P := prog) func116 (by kernel_rfl) rfl args w) (fun a => rT (fun h => MI a h))
theorem LQ : 0 < 96 /\ 96 <= 1000 := by decide
def Xt (x : N2) (y : N2) (hx : qe x) (hy : qe y) (hr : may2 (x, y, false)) (hg : q6 (x, y, false)) := PLift.up (ai (show qe y from hy) (ai (show qe y from hy) (ai (show qe x from hx) (ai (show sml2 (x, y, false) /\ may2 (x, y, false) /\ q6 (x, y, false) from ⟨⟨hx, hy⟩, hr, hg⟩) (ai (show sml2 (x, y, false) /\ may2 (x, y, false) from ⟨⟨hx, hy⟩, hr⟩) tt0)))))
theorem Aq {a : List XV} {r : AV} {b : Prop} (o : Nat -> Ora) (h : fnA prog (qC _) [BE, DA, Kx, AD, A0, Iu] 2 o f46 a = some (r, b)) (hv : ∃ v, r.val? = some v) (hb : b) : Gives prog 46 a r := pL (P := prog) (X := qC _) (env := [BE, DA, Kx, AD, A0, Iu]) ⟨xf, DD, M6, tV, yu, Ip, tt0⟩ func46 2 o h hv hb
theorem VS (x y : N2) (hx : qe x) (hy : qe y) (hr : may2 (x, y, false)) (hg : q6 (x, y, false)) (hh : ¬ hi2 (of2 y)) : Gives prog 46 [.t (.ag [.n 6 x.1, .n 6 x.2, .n 6 y.1, .n 6 y.2, .c (.bool false)])] (.tp [.v (.string (ofL (yP (b2 (of2 x)) (vg false false true)))), vi0 0]) :=
 Aq E9 (by kernel_rfl) ⟨_, rfl⟩ (ai LQ (ai (show ¬ hi2 (of2 y) from hh)
   (Xt x y hx hy hr hg).down))
theorem Wj (x y : N2) (hx : qe x) (hy : qe y) (hr : may2 (x, y, false)) (hg : q6 (x, y, false)) (hh : hi2 (of2 y)) : Gives prog 46 [.t (.ag [.n 6 x.1, .n 6 x.2, .n 6 y.1, .n 6 y.2, .c (.bool false)])] (.tp [.v (.string (ofL (yP (b2 (of2 x)) (vg false true true)))), vi0 0]) :=
 Aq GY (by kernel_rfl) ⟨_, rfl⟩ (ai LQ (ai (show hi2 (of2 y) from hh)
   (Xt x y hx hy hr hg).down))
def Xg (x : N2) (y : N2) (hx : qe x) (hy : qe y) (hr : may2 (x, y, true)) (hg : q6 (x, y, true)) := PLift.up (ai (show qe y from hy) (ai (show qe y from hy) (ai (show qe x from hx) (ai (show sml2 (x, y, true) /\ may2 (x, y, true) /\ q6 (x, y, true) from ⟨⟨hx, hy⟩, hr, hg⟩) (ai (show sml2 (x, y, true) /\ may2 (x, y, true) from ⟨⟨hx, hy⟩, hr⟩) tt0)))))
theorem Ur (x y : N2) (hx : qe x) (hy : qe y) (hr : may2 (x, y, true)) (hg : q6 (x, y, true)) (hh : ¬ hi2 (of2 y)) : Gives prog 46 [.t (.ag [.n 6 x.1, .n 6 x.2, .n 6 y.1, .n 6 y.2, .c (.bool true)])] (.tp [.v (.string (ofL (yP (b2 (of2 x)) (vg true false true)))), vi0 0]) :=
 Aq E9 (by kernel_rfl) ⟨_, rfl⟩ (ai LQ (ai (show ¬ hi2 (of2 y) from hh)
   (Xg x y hx hy hr hg).down))
theorem Wr (x y : N2) (hx : qe x) (hy : qe y) (hr : may2 (x, y, true)) (hg : q6 (x, y, true)) (hh : hi2 (of2 y)) : Gives prog 46 [.t (.ag [.n 6 x.1, .n 6 x.2, .n 6 y.1, .n 6 y.2, .c (.bool true)])] (.tp [.v (.string (ofL (yP (b2 (of2 x)) (vg true true true)))), vi0 0]) :=
 Aq GY (by kernel_rfl) ⟨_, rfl⟩ (ai LQ (ai (show hi2 (of2 y) from hh)
   (Xg x y hx hy hr hg).down))
theorem Sr (a : A2) (hs : sml2 a) (h : ¬ may2 a) : Gives prog 46 [.t (.ag [.n 6 a.1.1, .n 6 a.1.2, .n 6 a.2.1.1, .n 6 a.2.1.2, .c (.bool a.2.2)])] (.tp [.v (.string (ofL [])), vi0 30]) :=
 Aq (oL [(9, wO 1)]) (by kernel_rfl) ⟨_, rfl⟩ (ai (show sml2 a /\ ¬ may2 a from ⟨hs, h⟩) tt0)
theorem Pe (a : A2) (hs : sml2 a) (h : may2 a) (g : ¬ q6 a) : Gives prog 46 [.t (.ag [.n 6 a.1.1, .n 6 a.1.2, .n 6 a.2.1.1, .n 6 a.2.1.2, .c (.bool a.2.2)])] (.tp [.v (.string (ofL [])), vi0 31]) :=
 Aq (oL [(9, wO 0), (13, wO 1)]) (by kernel_rfl) ⟨_, rfl⟩ (ai (show sml2 a /\ may2 a /\ ¬ q6 a from ⟨hs, h, g⟩) (FU a hs h).down)
theorem WD (a : A2) (hs : sml2 a) (h : may2 a) (g : q6 a) : Gives prog 46 [.t (.ag [.n 6 a.1.1, .n 6 a.1.2, .n 6 a.2.1.1, .n 6 a.2.1.2, .c (.bool a.2.2)])] (.tp [.v (.string (ofL (z3 (of2 a.1) (of2 a.2.1) a.2.2 true))), vi0 0]) := by
 obtain ⟨x, y, b⟩ := a
 unfold z3
 cases b <;> by_cases hh : hi2 (of2 y)
 ·rw [show decide (hi2 (of2 (x, y, false).2.1)) = true from decide_eq_true hh]; exact Wj x y hs.1 hs.2 h g hh
 ·rw [show decide (hi2 (of2 (x, y, false).2.1)) = false from decide_eq_false hh]; exact VS x y hs.1 hs.2 h g hh
 ·rw [show decide (hi2 (of2 (x, y, true).2.1)) = true from decide_eq_true hh]; exact Wr x y hs.1 hs.2 h g hh
 ·rw [show decide (hi2 (of2 (x, y, true).2.1)) = false from decide_eq_false hh]; exact Ur x y hs.1 hs.2 h g hh
end Go.Proofs.YtokjhbmmdmeafaaGreat
