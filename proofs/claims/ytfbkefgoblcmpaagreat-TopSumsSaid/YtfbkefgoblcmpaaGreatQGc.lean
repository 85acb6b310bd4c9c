/- Pruned: Gc. -/
import Derived.Test.YtfbkefgoblcmpaaGreatQGb
import Derived.Test.YtfbkefgoblcmpaaGreatQGr
import Derived.Test.YtfbkefgoblcmpaaGreatQGa
import Derived.Test.YtfbkefgoblcmpaaGreatQHc
import Derived.WalkKit
import Derived.RegionTactic
import Derived.ChangeAlike
import Derived.Laws.BytesString
set_option linter.unusedSimpArgs false
set_option linter.unusedVariables false
namespace Go.Proofs.YtfbkefgoblcmpaaGreat
open Go.Ev Go.RowKit
open Tryz
def pc2 (p : Pt2) : List Ch := [.m (p).1.1, .m (p).1.2, .m (p).2.1.1, .m (p).2.1.2, .m (p).2.2.1, .m (p).2.2.2]
def zg : Par Pt2 := xd
theorem zQ : flat (m2 ((0, 0) : F2)) = flat [.c (.int .u64 0), .c (.int .u64 0), .c (.int .u64 0), .c (.int .u64 0), .c (.int .u64 0), .c (.int .u64 0), .c (.int .u64 0), .c (.int .u64 0), .c (.int .u64 0), .c (.int .u64 0), .c (.int .u64 0), .c (.int .u64 0)] := by kernel_rfl
theorem xt : ∀ l m : List (Fin Pp), l.length = m.length -> flat (l.map .m) = flat (m.map .m) -> l = m
 | [], [], _, _ => rfl
 | [], _ :: _, h, _ => by simp at h
 | _ :: _, [], h, _ => by simp at h
 | x :: l, y :: m, h, e => by
  have e' : limbs 6 (toM x) ++ flat (l.map .m) = limbs 6 (toM y) ++ flat (m.map .m) := e
  have hl : (limbs 6 (toM x)).length = (limbs 6 (toM y)).length := by simp only [limbs, List.length_cons, List.length_nil]
  have h1 := List.append_inj e' hl
  have h2 : flat [Ch.m x] = flat [Ch.m y] := by simp only [flat, Ch.cells, List.append_nil]; exact h1.1
  rw [yS h2, xt l m (by simpa using h) h1.2]
theorem Vz (a : F2) (h : a = (0, 0)) : Gives prog 75 [.t (.ag (m2 a))] (.v (.bool true)) := qa (P := prog) (env := []) trivial func75 0 (oN [] [(4, 0)]) (by kernel_rfl) (ai (show flat (m2 a) = flat [.c (.int .u64 0), .c (.int .u64 0), .c (.int .u64 0), .c (.int .u64 0), .c (.int .u64 0), .c (.int .u64 0), .c (.int .u64 0), .c (.int .u64 0), .c (.int .u64 0), .c (.int .u64 0), .c (.int .u64 0), .c (.int .u64 0)] from by rw [h]; exact zQ) tt0)
theorem S2 (a : F2) (h : a ≠ (0, 0)) : Gives prog 75 [.t (.ag (m2 a))] (.v (.bool false)) := qa (P := prog) (env := []) trivial func75 0 (oN [] [(4, 1)]) (by kernel_rfl) (ai (show ¬ flat (m2 a) = flat [.c (.int .u64 0), .c (.int .u64 0), .c (.int .u64 0), .c (.int .u64 0), .c (.int .u64 0), .c (.int .u64 0), .c (.int .u64 0), .c (.int .u64 0), .c (.int .u64 0), .c (.int .u64 0), .c (.int .u64 0), .c (.int .u64 0)] from fun e => h (by
 have := xt [a.1, a.2] [0, 0] rfl (e.trans zQ.symm)
 simp only [List.cons.injEq] at this
 exact sJ this.1 this.2.1)) tt0)
def ws : Entry := qA 75 tn.x (fun a => [(some (a = (0, 0)), .v (.bool true)), (some (a ≠ (0, 0)), .v (.bool false))])
theorem sA : ws.OK prog := qj (fun args w => Go.Proofs.enters_of (P := prog) func75 (by kernel_rfl) rfl args w) (fun a c r hm hc => by
 simp only [List.mem_cons, pi0, List.not_mem_nil, or_false] at hm
 rcases hm with ⟨rfl, rfl⟩ | ⟨rfl, rfl⟩
 ·exact Vz a hc
 ·exact S2 a hc)
theorem NA (p : Pt2) (h : p.2.2 = ((0, 0) : F2)) : Gives prog 40 [.t (.ag (pc2 p))] (.ag (pc2 (rq p))) := by
 unfold rq
 rw [if_pos h]
 exact qa (P := prog) (env := [ws, sv, sV, rD]) ⟨sA, qU, rC, qG, tt0⟩ func40 0 (oL [(5, wO 0)]) (by kernel_rfl) (ai h tt0)
theorem LO (p : Pt2) (h : p.2.2 ≠ ((0, 0) : F2)) : Gives prog 40 [.t (.ag (pc2 p))] (.ag (pc2 (rq p))) := by
 unfold rq
 rw [if_neg h]
 exact qa (P := prog) (env := [ws, sv, sV, rD]) ⟨sA, qU, rC, qG, tt0⟩ func40 0 (oL [(5, wO 1)]) (by kernel_rfl) (ai h tt0)
def uk : Entry := qA 40 zg.x (fun p => [(none, .ag (pc2 (rq p)))])
theorem r7 : uk.OK prog := qj (fun args w => Go.Proofs.enters_of (P := prog) func40 (by kernel_rfl) rfl args w) (fun p => only (by
 by_cases h : p.2.2 = ((0, 0) : F2)
 ·exact NA p h
 ·exact LO p h))
theorem V9 (p q : Pt2) : Gives prog 38 [.t (.ag (pc2 p)), .t (.ag (pc2 q))] (.ag (pc2 (vr p q))) := by
 unfold vr
 by_cases h1 : p.2.2 = ((0, 0) : F2)
 ·rw [if_pos h1]
  exact qa (P := prog) (env := [ws, uk, sv, sV, rD]) ⟨sA, r7, qU, rC, qG, tt0⟩ func38 0 (oL [(6, wO 0)]) (by kernel_rfl) (ai h1 tt0)
 ·rw [if_neg h1]
  by_cases h2 : q.2.2 = ((0, 0) : F2)
  ·rw [if_pos h2]
   exact qa (P := prog) (env := [ws, uk, sv, sV, rD]) ⟨sA, r7, qU, rC, qG, tt0⟩ func38 0 (oL [(6, wO 1), (11, wO 0)]) (by kernel_rfl) (ai h2 (ai h1 tt0))
  ·rw [if_neg h2]
   by_cases h3 : hP2 p q = ((0, 0) : F2)
   ·rw [if_pos h3]
    by_cases h4 : rP2 p q = ((0, 0) : F2)
    ·rw [if_pos h4]
     exact qa (P := prog) (env := [ws, uk, sv, sV, rD]) ⟨sA, r7, qU, rC, qG, tt0⟩ func38 0 (oL [(6, wO 1), (11, wO 1), (79, wO 0), (82, wO 0)]) (by kernel_rfl) (ai h4 (ai h3 (ai h2 (ai h1 tt0))))
    ·rw [if_neg h4]
     refine Gives.same (r := .ag ([.m p.1.1, .m p.1.2, .m p.2.1.1, .m p.2.1.2, .c (.int .u64 0), .c (.int .u64 0), .c (.int .u64 0), .c (.int .u64 0), .c (.int .u64 0), .c (.int .u64 0), .c (.int .u64 0), .c (.int .u64 0), .c (.int .u64 0), .c (.int .u64 0), .c (.int .u64 0), .c (.int .u64 0)])) (qa (P := prog) (env := [ws, uk, sv, sV, rD]) ⟨sA, r7, qU, rC, qG, tt0⟩ func38 0 (oL [(6, wO 1), (11, wO 1), (79, wO 0), (82, wO 1)]) (by kernel_rfl) (ai h4 (ai h3 (ai h2 (ai h1 tt0))))) (qX rfl rfl ?_)
     show flat ([.m p.1.1, .m p.1.2, .m p.2.1.1, .m p.2.1.2] ++ m2 ((0, 0) : F2)) = flat ([.m p.1.1, .m p.1.2, .m p.2.1.1, .m p.2.1.2] ++ [.c (.int .u64 0), .c (.int .u64 0), .c (.int .u64 0), .c (.int .u64 0), .c (.int .u64 0), .c (.int .u64 0), .c (.int .u64 0), .c (.int .u64 0), .c (.int .u64 0), .c (.int .u64 0), .c (.int .u64 0), .c (.int .u64 0)])
     rw [qk, qk, zQ]
   ·rw [if_neg h3]
    exact qa (P := prog) (env := [ws, uk, sv, sV, rD]) ⟨sA, r7, qU, rC, qG, tt0⟩ func38 0 (oL [(6, wO 1), (11, wO 1), (79, wO 1)]) (by kernel_rfl) (ai h3 (ai h2 (ai h1 tt0)))
def zR : Entry := sq 38 zg.x zg.x (fun p q => [(none, .ag (pc2 (vr p q)))])
theorem vn : zR.OK prog := q6 (fun args w => Go.Proofs.enters_of (P := prog) func38 (by kernel_rfl) rfl args w) (fun p q => only (V9 p q))
def BZ (p : Pt2) : List Ch := [.m p.1.1, .m p.1.2, .m p.2.1.1, .m p.2.1.2, .c (.int .u64 0), .c (.int .u64 0), .c (.int .u64 0), .c (.int .u64 0), .c (.int .u64 0), .c (.int .u64 0), .c (.int .u64 0), .c (.int .u64 0), .c (.int .u64 0), .c (.int .u64 0), .c (.int .u64 0), .c (.int .u64 0), .m (tab2 p 1).1.1, .m (tab2 p 1).1.2, .m (tab2 p 1).2.1.1, .m (tab2 p 1).2.1.2, .m (tab2 p 1).2.2.1, .m (tab2 p 1).2.2.2, .m (tab2 p 2).1.1, .m (tab2 p 2).1.2, .m (tab2 p 2).2.1.1, .m (tab2 p 2).2.1.2, .m (tab2 p 2).2.2.1, .m (tab2 p 2).2.2.2, .m (tab2 p 3).1.1, .m (tab2 p 3).1.2, .m (tab2 p 3).2.1.1, .m (tab2 p 3).2.1.2, .m (tab2 p 3).2.2.1, .m (tab2 p 3).2.2.2, .m (tab2 p 4).1.1, .m (tab2 p 4).1.2, .m (tab2 p 4).2.1.1, .m (tab2 p 4).2.1.2, .m (tab2 p 4).2.2.1, .m (tab2 p 4).2.2.2, .m (tab2 p 5).1.1, .m (tab2 p 5).1.2, .m (tab2 p 5).2.1.1, .m (tab2 p 5).2.1.2, .m (tab2 p 5).2.2.1, .m (tab2 p 5).2.2.2, .m (tab2 p 6).1.1, .m (tab2 p 6).1.2, .m (tab2 p 6).2.1.1, .m (tab2 p 6).2.1.2, .m (tab2 p 6).2.2.1, .m (tab2 p 6).2.2.2, .m (tab2 p 7).1.1, .m (tab2 p 7).1.2, .m (tab2 p 7).2.1.1, .m (tab2 p 7).2.1.2, .m (tab2 p 7).2.2.1, .m (tab2 p 7).2.2.2, .m (tab2 p 8).1.1, .m (tab2 p 8).1.2, .m (tab2 p 8).2.1.1, .m (tab2 p 8).2.1.2, .m (tab2 p 8).2.2.1, .m (tab2 p 8).2.2.2, .m (tab2 p 9).1.1, .m (tab2 p 9).1.2, .m (tab2 p 9).2.1.1, .m (tab2 p 9).2.1.2, .m (tab2 p 9).2.2.1, .m (tab2 p 9).2.2.2, .m (tab2 p 10).1.1, .m (tab2 p 10).1.2, .m (tab2 p 10).2.1.1, .m (tab2 p 10).2.1.2, .m (tab2 p 10).2.2.1, .m (tab2 p 10).2.2.2, .m (tab2 p 11).1.1, .m (tab2 p 11).1.2, .m (tab2 p 11).2.1.1, .m (tab2 p 11).2.1.2, .m (tab2 p 11).2.2.1, .m (tab2 p 11).2.2.2, .m (tab2 p 12).1.1, .m (tab2 p 12).1.2, .m (tab2 p 12).2.1.1, .m (tab2 p 12).2.1.2, .m (tab2 p 12).2.2.1, .m (tab2 p 12).2.2.2, .m (tab2 p 13).1.1, .m (tab2 p 13).1.2, .m (tab2 p 13).2.1.1, .m (tab2 p 13).2.1.2, .m (tab2 p 13).2.2.1, .m (tab2 p 13).2.2.2, .m (tab2 p 14).1.1, .m (tab2 p 14).1.2, .m (tab2 p 14).2.1.1, .m (tab2 p 14).2.1.2, .m (tab2 p 14).2.2.1, .m (tab2 p 14).2.2.2, .m (tab2 p 15).1.1, .m (tab2 p 15).1.2, .m (tab2 p 15).2.1.1, .m (tab2 p 15).2.1.2, .m (tab2 p 15).2.2.1, .m (tab2 p 15).2.2.2]
theorem MQ (p : Pt2) : (flat (pc2 p)).length = 36 := by rw [so]; rfl
theorem HQ (p : Pt2) : flat (BZ p) = (List.range 16).flatMap (fun j => flat (pc2 (tab2 p j))) := by
 have e0 : flat (pc2 (tab2 p 0)) = flat [.m p.1.1, .m p.1.2, .m p.2.1.1, .m p.2.1.2, .c (.int .u64 0), .c (.int .u64 0), .c (.int .u64 0), .c (.int .u64 0), .c (.int .u64 0), .c (.int .u64 0), .c (.int .u64 0), .c (.int .u64 0), .c (.int .u64 0), .c (.int .u64 0), .c (.int .u64 0), .c (.int .u64 0)] := by
  show flat ([.m p.1.1, .m p.1.2, .m p.2.1.1, .m p.2.1.2] ++ m2 ((0, 0) : F2)) = flat ([.m p.1.1, .m p.1.2, .m p.2.1.1, .m p.2.1.2] ++ [.c (.int .u64 0), .c (.int .u64 0), .c (.int .u64 0), .c (.int .u64 0), .c (.int .u64 0), .c (.int .u64 0), .c (.int .u64 0), .c (.int .u64 0), .c (.int .u64 0), .c (.int .u64 0), .c (.int .u64 0), .c (.int .u64 0)])
  rw [qk, qk, zQ]
 have e1 : BZ p = [.m p.1.1, .m p.1.2, .m p.2.1.1, .m p.2.1.2, .c (.int .u64 0), .c (.int .u64 0), .c (.int .u64 0), .c (.int .u64 0), .c (.int .u64 0), .c (.int .u64 0), .c (.int .u64 0), .c (.int .u64 0), .c (.int .u64 0), .c (.int .u64 0), .c (.int .u64 0), .c (.int .u64 0)] ++ (pc2 (tab2 p 1) ++ (pc2 (tab2 p 2) ++ (pc2 (tab2 p 3) ++ (pc2 (tab2 p 4) ++ (pc2 (tab2 p 5) ++ (pc2 (tab2 p 6) ++ (pc2 (tab2 p 7) ++ (pc2 (tab2 p 8) ++ (pc2 (tab2 p 9) ++ (pc2 (tab2 p 10) ++ (pc2 (tab2 p 11) ++ (pc2 (tab2 p 12) ++ (pc2 (tab2 p 13) ++ (pc2 (tab2 p 14) ++ pc2 (tab2 p 15))))))))))))))) := rfl
 rw [e1]
 simp only [qk, ← e0]
 simp [List.range_succ_eq_map, List.flatMap]
theorem Hh (p : Pt2) (j : Nat) (h : j < 16) : ((flat (BZ p)).drop (0 + j * 36)).take 36 = flat (pc2 (tab2 p j)) := by
 rw [Nat.zero_add, HQ]
 exact w9 (fun j => flat (pc2 (tab2 p j))) 36 (fun j => MQ _) 16 j h
def vT (r : Array Tmp × Code × Code) (p : Pt2) (k : Nat) (b : Bool) (z : Int) (o : List Ch) : LState := { n := 32, sl := [(0, .yd 235), (1, .p 230 0), (3, .v (.bool b)), (4, vi0 z)], hp := [(0, .own (pc2 p) 55), (1, .own [.n 4 k] 25), (2, .own [.c (.int .u64 0), .c (.int .u64 0), .c (.int .u64 0), .c (.int .u64 0), .c (.int .u64 0), .c (.int .u64 0), .c (.int .u64 0), .c (.int .u64 0), .c (.int .u64 0), .c (.int .u64 0), .c (.int .u64 0), .c (.int .u64 0), .c (.int .u64 0), .c (.int .u64 0), .c (.int .u64 0), .c (.int .u64 0), .c (.int .u64 0), .c (.int .u64 0), .c (.int .u64 0), .c (.int .u64 0), .c (.int .u64 0), .c (.int .u64 0), .c (.int .u64 0), .c (.int .u64 0), .c (.int .u64 0), .c (.int .u64 0), .c (.int .u64 0), .c (.int .u64 0), .c (.int .u64 0), .c (.int .u64 0), .c (.int .u64 0), .c (.int .u64 0), .c (.int .u64 0), .c (.int .u64 0), .c (.int .u64 0), .c (.int .u64 0)] 55), (3, .own (BZ p) 87), (226, .own o 55), (230, .own [.n 4 k] 25), (234, .dfd),
 (235, .lp .ready none ⟨43, .any, trOf [(5, .p 3 0), (7, .p 226 0)]⟩ r.1 r.2.1 r.2.2 234)] }
def M4 (r : Array Tmp × Code × Code) (p : Pt2) (k : Nat) (o : List Ch) : LState := { n := 32, sl := [], hp := [(0, .own (pc2 p) 55), (1, .own [.n 4 k] 25), (2, .own [.c (.int .u64 0), .c (.int .u64 0), .c (.int .u64 0), .c (.int .u64 0), .c (.int .u64 0), .c (.int .u64 0), .c (.int .u64 0), .c (.int .u64 0), .c (.int .u64 0), .c (.int .u64 0), .c (.int .u64 0), .c (.int .u64 0), .c (.int .u64 0), .c (.int .u64 0), .c (.int .u64 0), .c (.int .u64 0), .c (.int .u64 0), .c (.int .u64 0), .c (.int .u64 0), .c (.int .u64 0), .c (.int .u64 0), .c (.int .u64 0), .c (.int .u64 0), .c (.int .u64 0), .c (.int .u64 0), .c (.int .u64 0), .c (.int .u64 0), .c (.int .u64 0), .c (.int .u64 0), .c (.int .u64 0), .c (.int .u64 0), .c (.int .u64 0), .c (.int .u64 0), .c (.int .u64 0), .c (.int .u64 0), .c (.int .u64 0)] 55), (3, .own (BZ p) 87), (226, .own o 55), (230, .own [.n 4 k] 25), (234, .dfd),
 (235, .lp .ready none ⟨43, .any, trOf [(5, .p 3 0), (7, .p 226 0)]⟩ r.1 r.2.1 r.2.2 234)] }
theorem W3 (p q : Pt2) (k i : Nat) (hi : i < 64)  : Sound prog 236 false (ql f67 0) (vT (qd f15 0) p k true ((((i + 1 : Nat) : Int)) - 1) (pc2 q)).aa .normal (vT (qd f15 0) p k true (((i : Nat) : Int) - 1) (pc2 (vr (rq (rq (rq (rq q)))) (tab2 p (dig k i))))).aa := by
 have hs := qh (P := prog) (X := qE _) (env := [uk, zR]) ⟨r7, vn, tt0⟩ (n := 2) (os := oL [(239, wO 1), (242, rO 2 (i / 16)), (243, rO 3 0), (247, rO 4 (4 * (i % 16))), (249, { ch := 1, hi := fun _ => dig k i }), (291, rO 2 (dig k i)), (292, { ch := 0, hi := fun _ => 0, ru := 8, cs := fun _ => pc2 (tab2 p (dig k i)) })]) (fb := 236) (rd := false) (c := ql f67 0) (k := 238) (I := vT (qd f15 0) p k true ((((i + 1 : Nat) : Int)) - 1) (pc2 q)) (sk := [0, 1, 3, 4]) (hk := [0, 1, 2, 3, 226, 230, 234, 235]) (lk := [(235, [5, 7])]) (ex := .normal)
  (L := vT (qd f15 0) p k true (IntKind.i64.wrap ((((i + 1 : Nat) : Int) - 1) - 1)) (pc2 (vr (rq (rq (rq (rq q)))) (tab2 p (dig k i))))) (by kernel_rfl) (ai (show sizes (pc2 (tab2 p (dig k i))) = 36 /\ ((flat (BZ p)).drop (0 + dig k i * 36)).take 36 = flat (pc2 (tab2 p (dig k i))) from ⟨rfl, Hh p _ (wP k i)⟩) (ai (show ((dig k i : Nat) : Int) = ((dig k i : Nat) : Int) /\ dig k i < 16 from ⟨rfl, wP k i⟩) (ai (z8 k i) (ai (Ax i) (ai (show 0 + i / 16 * 1 < 4 from by omega) (ai (As i hi) (ai (show decide (((((i + 1 : Nat) : Int)) - 1) >= 0) = true from decide_eq_true (by omega)) tt0)))))))
 rw [show IntKind.i64.wrap ((((i + 1 : Nat) : Int) - 1) - 1) = ((i : Nat) : Int) - 1 by rw [qm]; omega] at hs
 exact hs
theorem VX (p q : Pt2) (k i : Nat) (hi : i < 64) (hd : ((dig k i : Nat) : Int) > 0) : Sound prog 236 false (ql f67 0) (vT (qd f15 0) p k false ((((i + 1 : Nat) : Int)) - 1) (pc2 q)).aa .normal (vT (qd f15 0) p k true (((i : Nat) : Int) - 1) (pc2 (vr (rq (rq (rq (rq q)))) (tab2 p (dig k i))))).aa := by
 have hs := qh (P := prog) (X := qE _) (env := [uk, zR]) ⟨r7, vn, tt0⟩ (n := 2) (os := oL [(239, wO 1), (242, rO 2 (i / 16)), (243, rO 3 0), (247, rO 4 (4 * (i % 16))), (249, { ch := 1, hi := fun _ => dig k i }), (254, wO 1), (291, rO 2 (dig k i)), (292, { ch := 0, hi := fun _ => 0, ru := 8, cs := fun _ => pc2 (tab2 p (dig k i)) })]) (fb := 236) (rd := false) (c := ql f67 0) (k := 238) (I := vT (qd f15 0) p k false ((((i + 1 : Nat) : Int)) - 1) (pc2 q)) (sk := [0, 1, 3, 4]) (hk := [0, 1, 2, 3, 226, 230, 234, 235]) (lk := [(235, [5, 7])]) (ex := .normal)
  (L := vT (qd f15 0) p k true (IntKind.i64.wrap ((((i + 1 : Nat) : Int) - 1) - 1)) (pc2 (vr (rq (rq (rq (rq q)))) (tab2 p (dig k i))))) (by kernel_rfl) (ai (show sizes (pc2 (tab2 p (dig k i))) = 36 /\ ((flat (BZ p)).drop (0 + dig k i * 36)).take 36 = flat (pc2 (tab2 p (dig k i))) from ⟨rfl, Hh p _ (wP k i)⟩) (ai (show ((dig k i : Nat) : Int) = ((dig k i : Nat) : Int) /\ dig k i < 16 from ⟨rfl, wP k i⟩) (ai (show decide (((dig k i : Nat) : Int) > 0) = true from decide_eq_true hd) (ai (z8 k i) (ai (Ax i) (ai (show 0 + i / 16 * 1 < 4 from by omega) (ai (As i hi) (ai (show decide (((((i + 1 : Nat) : Int)) - 1) >= 0) = true from decide_eq_true (by omega)) tt0))))))))
 rw [show IntKind.i64.wrap ((((i + 1 : Nat) : Int) - 1) - 1) = ((i : Nat) : Int) - 1 by rw [qm]; omega] at hs
 exact hs
theorem WZ (p q : Pt2) (k i : Nat) (hi : i < 64) (hd : ¬ ((dig k i : Nat) : Int) > 0) : Sound prog 236 false (ql f67 0) (vT (qd f15 0) p k false ((((i + 1 : Nat) : Int)) - 1) (pc2 q)).aa .normal (vT (qd f15 0) p k false (((i : Nat) : Int) - 1) (pc2 q)).aa := by
 have hs := qh (P := prog) (X := qE _) (env := [uk, zR]) ⟨r7, vn, tt0⟩ (n := 2) (os := oL [(239, wO 1), (242, rO 2 (i / 16)), (243, rO 3 0), (247, rO 4 (4 * (i % 16))), (249, { ch := 1, hi := fun _ => dig k i }), (254, wO 2)]) (fb := 236) (rd := false) (c := ql f67 0) (k := 238) (I := vT (qd f15 0) p k false ((((i + 1 : Nat) : Int)) - 1) (pc2 q)) (sk := [0, 1, 3, 4]) (hk := [0, 1, 2, 3, 226, 230, 234, 235]) (lk := [(235, [5, 7])]) (ex := .normal)
  (L := vT (qd f15 0) p k false (IntKind.i64.wrap ((((i + 1 : Nat) : Int) - 1) - 1)) (pc2 q)) (by kernel_rfl) (ai (show decide (((dig k i : Nat) : Int) > 0) = false from decide_eq_false hd) (ai (z8 k i) (ai (Ax i) (ai (show 0 + i / 16 * 1 < 4 from by omega) (ai (As i hi) (ai (show decide (((((i + 1 : Nat) : Int)) - 1) >= 0) = true from decide_eq_true (by omega)) tt0))))))
 rw [show IntKind.i64.wrap ((((i + 1 : Nat) : Int) - 1) - 1) = ((i : Nat) : Int) - 1 by rw [qm]; omega] at hs
 exact hs
def Lv := PLift.up (ai (show decide ((((0 : Nat) : Int) - 1) >= 0) = false from by decide) tt0)
theorem O7 (p q : Pt2) (k : Nat) (b : Bool) : Sound prog 236 false (ql f67 0) (vT (qd f15 0) p k b (((0 : Nat) : Int) - 1) (pc2 q)).aa (.exit 0) (M4 (qd f15 0) p k (pc2 q)).aa :=
 qh (P := prog) (X := qE _) (env := []) trivial (n := 2) (os := oL [(239, wO 2)]) (fb := 236) (rd := false) (c := ql f67 0) (k := 238) (I := vT (qd f15 0) p k b (((0 : Nat) : Int) - 1) (pc2 q)) (sk := []) (hk := [0, 1, 2, 3, 226, 230, 234, 235]) (lk := [(235, [5, 7])]) (ex := .exit 0)
  (L := M4 (qd f15 0) p k (pc2 q)) (by kernel_rfl) Lv.down
theorem Lg (p : Pt2) (k : Nat) (hk : k < 115792089237316195423570985008687907853269984665640564039457584007913129639936) (y : { i : Nat // i <= 64 }) : Sound prog 236 false (.loop (ql f67 0)) (vT (qd f15 0) p k (bgn k (64 - y.val)) (((y.val : Nat) : Int) - 1) (pc2 (man2 p k (64 - y.val)))).aa (.exit 0) (M4 (qd f15 0) p k (pc2 (man2 p k 64))).aa := by
 refine sT (m := fun y : { i : Nat // i <= 64 } => y.val) (fun y => vT (qd f15 0) p k (bgn k (64 - y.val)) (((y.val : Nat) : Int) - 1) (pc2 (man2 p k (64 - y.val)))) (by simp) (fun y => ?_) y
 obtain ⟨i, hi⟩ := y
 cases i with
 | zero => exact .inr (O7 p _ k _)
 | succ i =>
  refine .inl ⟨⟨i, by omega⟩, Nat.lt_succ_self i, ?_⟩
  have e1 : 64 - i = (64 - (i + 1)) + 1 := by omega
  have e2 : 63 - (64 - (i + 1)) = i := by omega
  have hb := CJ k (64 - (i + 1)) (by omega)
  rw [e2, ← e1] at hb
  have hm : man2 p k (64 - i) = vr (rq (rq (rq (rq (man2 p k (64 - (i + 1))))))) (tab2 p (dig k i)) := by
   rw [e1]
   show vr _ (tab2 p (dig k (63 - (64 - (i + 1))))) = _
   rw [e2]
  simp only
  rw [hm]
  cases hc : bgn k (64 - (i + 1)) with
  | true =>
   rw [hc] at hb
   simp only [Bool.true_or] at hb
   rw [hb]
   exact W3 p _ k i (by omega)
  | false =>
   rw [hc] at hb
   simp only [Bool.false_or] at hb
   by_cases hd : ((dig k i : Nat) : Int) > 0
   ·rw [hb, decide_eq_true (by omega)]
    exact VX p _ k i (by omega) hd
   ·have h0 : dig k i = 0 := by omega
    rw [hb, decide_eq_false (by omega)]
    have hn := DL p k (64 - (i + 1)) (EZ hk _ (by omega) hc)
    rw [hn, h0, tN _ rfl, tN _ rfl, tN _ rfl, tN _ rfl, CC _ _ rfl]
    exact WZ p _ k i (by omega) hd
theorem QP (p : Pt2) (k : Nat) (hk : k < 115792089237316195423570985008687907853269984665640564039457584007913129639936) : Sound prog 236 false (.loop (ql f67 0)) (vT (qd f15 0) p k false 63 [.m p.1.1, .m p.1.2, .m p.2.1.1, .m p.2.1.2, .c (.int .u64 0), .c (.int .u64 0), .c (.int .u64 0), .c (.int .u64 0), .c (.int .u64 0), .c (.int .u64 0), .c (.int .u64 0), .c (.int .u64 0), .c (.int .u64 0), .c (.int .u64 0), .c (.int .u64 0), .c (.int .u64 0)]).aa (.exit 0) (M4 (qd f15 0) p k (pc2 (man2 p k 64))).aa := by
 have hl := Lg p k hk ⟨64, Nat.le_refl _⟩
 simp only [Nat.sub_self, Fs hk] at hl
 refine Sound.pre (J := vT (qd f15 0) p k false (((64 : Nat) : Int) - 1) (pc2 (man2 p k 0))) hl [] (by kernel_rfl) ?_
 have e0 : flat [.m p.1.1, .m p.1.2, .m p.2.1.1, .m p.2.1.2, .c (.int .u64 0), .c (.int .u64 0), .c (.int .u64 0), .c (.int .u64 0), .c (.int .u64 0), .c (.int .u64 0), .c (.int .u64 0), .c (.int .u64 0), .c (.int .u64 0), .c (.int .u64 0), .c (.int .u64 0), .c (.int .u64 0)] = flat (pc2 (man2 p k 0)) := by
  symm
  show flat ([.m p.1.1, .m p.1.2, .m p.2.1.1, .m p.2.1.2] ++ m2 ((0, 0) : F2)) = flat ([.m p.1.1, .m p.1.2, .m p.2.1.1, .m p.2.1.2] ++ [.c (.int .u64 0), .c (.int .u64 0), .c (.int .u64 0), .c (.int .u64 0), .c (.int .u64 0), .c (.int .u64 0), .c (.int .u64 0), .c (.int .u64 0), .c (.int .u64 0), .c (.int .u64 0), .c (.int .u64 0), .c (.int .u64 0)])
  rw [qk, qk, zQ]
 exact ⟨⟨rfl, rr0, rfl, rfl, tt0⟩, ⟨rr0, rr0, rr0, rr0, ⟨rfl, e0⟩, rr0, tt0, ⟨⟨rfl, rfl, rfl, rfl, rfl, rfl, rfl⟩, vA (by kernel_rfl)⟩, tt0⟩⟩
abbrev L7 (p : Pt2) : List Ch := [.m p.1.1, .m p.1.2, .m p.2.1.1, .m p.2.1.2, .c (.int .u64 0), .c (.int .u64 0), .c (.int .u64 0), .c (.int .u64 0), .c (.int .u64 0), .c (.int .u64 0), .c (.int .u64 0), .c (.int .u64 0), .c (.int .u64 0), .c (.int .u64 0), .c (.int .u64 0), .c (.int .u64 0)]
abbrev Mr (k : Nat) : Prop := k < 115792089237316195423570985008687907853269984665640564039457584007913129639936
theorem XJ (p : Pt2) (k : Nat) (hk : Mr k) : Gives prog 15 [.t (.ag (pc2 p)), .t (.ag [.n 4 k])] (.ag (pc2 (man2 p k 64))) :=
 qb (P := prog) (X := qE _) (env := [uk, zR]) ⟨r7, vn, tt0⟩ func15 2 (oL [(238, lpO { I := vT (qd f15 0) p k false 63 (L7 p), ex := .exit 0, E := M4 (qd f15 0) p k (pc2 (man2 p k 64)), fr := 239, lk := [(235, [5, 7])] })]) (by kernel_rfl) ⟨_, rfl⟩ (ai (show some (vT (qd f15 0) p k false 63 (L7 p)) = some (vT (qd f15 0) p k false 63 (L7 p)) from rfl) (ai (QP p k hk) tt0))
def CN : Entry := sq 15 zg.x GR.x (fun p k => [(some (k < 115792089237316195423570985008687907853269984665640564039457584007913129639936), .ag (pc2 (man2 p k 64)))])
theorem yq : CN.OK prog := q6 (fun args w => Go.Proofs.enters_of (P := prog) func15 (by kernel_rfl) rfl args w) (fun p k => sZ (fun h => XJ p k h))
end Go.Proofs.YtfbkefgoblcmpaaGreat
set_option linter.unusedSimpArgs false
set_option linter.unusedVariables false
namespace Go.Proofs.YtfbkefgoblcmpaaGreat
open Go.Ev Go.RowKit
open Tryz
theorem Gf {a b : F2} (e : flat (m2 a) = flat (m2 b)) : a = b := by
 have := xt [a.1, a.2] [b.1, b.2] rfl e
 simp only [List.cons.injEq, and_true] at this
 exact sJ this.1 this.2
abbrev Ad (x : N2) : List Ch := [.q (of2 x).1, .q (of2 x).2]
theorem Qw (x y : N2) (hx : qP x) (hy : qP y) (h : ¬ flat (Ad x) = flat [.n 6 x.1, .n 6 x.2]) : Gives prog 33 [.t (.ag [.n 6 x.1, .n 6 x.2, .n 6 y.1, .n 6 y.2, .c (.bool false)])] (.v (.bool false)) :=
 qa (P := prog) (env := [zU, AN, rD, sv, xj]) ⟨sU, uW, qG, qU, rX, tt0⟩ func33 1 (oL [(23, wO 1)]) (by kernel_rfl) (ai (show ¬ flat (Ad x) = flat [.n 6 x.1, .n 6 x.2] from h) (ai (show qP y from hy) (ai (show qP x from hx) tt0)))
def Ot {x : N2} (y : N2) (hx : qP x) (hy : qP y) (h : flat [.q (of2 x).1, .q (of2 x).2] = flat [.n 6 x.1, .n 6 x.2]) := PLift.up (ai (show flat (Ad x) = flat [.n 6 x.1, .n 6 x.2] from h) (ai (show qP y from hy) (ai (show qP x from hx) tt0)))
abbrev Dx (y : N2) : List Ch := [.q (of2 y).1, .q (of2 y).2]
theorem Py (x y : N2) (hx : qP x) (hy : qP y) (h : flat (Ad x) = flat [.n 6 x.1, .n 6 x.2]) (h2 : ¬ flat (Dx y) = flat [.n 6 y.1, .n 6 y.2]) : Gives prog 33 [.t (.ag [.n 6 x.1, .n 6 x.2, .n 6 y.1, .n 6 y.2, .c (.bool false)])] (.v (.bool false)) :=
 qa (P := prog) (env := [zU, AN, rD, sv, xj]) ⟨sU, uW, qG, qU, rX, tt0⟩ func33 1 (oL [(23, wO 0), (29, wO 1)]) (by kernel_rfl) (ai (show ¬ flat (Dx y) = flat [.n 6 y.1, .n 6 y.2] from h2)
   (Ot y hx hy h).down)
abbrev IU (x : N2) := qR (mul2 (mul2 (of2 x) (of2 x)) (of2 x)) (ofP (4 % 18446744073709551616), ofP (4 % 18446744073709551616))
theorem Qx (x y : N2) (hx : qP x) (hy : qP y) (h : flat (Ad x) = flat [.n 6 x.1, .n 6 x.2]) (h2 : flat (Dx y) = flat [.n 6 y.1, .n 6 y.2]) (h3 : ¬ flat (m2 (mul2 (of2 y) (of2 y))) = flat (m2 (IU x))) : Gives prog 33 [.t (.ag [.n 6 x.1, .n 6 x.2, .n 6 y.1, .n 6 y.2, .c (.bool false)])] (.v (.bool false)) :=
 qa (P := prog) (env := [zU, AN, rD, sv, xj]) ⟨sU, uW, qG, qU, rX, tt0⟩ func33 1 (oL [(23, wO 0), (29, wO 0), (42, wO 1)]) (by kernel_rfl) (ai (show ¬ flat (m2 (mul2 (of2 y) (of2 y))) = flat (m2 (IU x)) from h3) (ai (show flat (Dx y) = flat [.n 6 y.1, .n 6 y.2] from h2)
   (Ot y hx hy h).down))
theorem Ta (x y : N2) (hx : qP x) (hy : qP y) (h : flat (Ad x) = flat [.n 6 x.1, .n 6 x.2]) (h2 : flat (Dx y) = flat [.n 6 y.1, .n 6 y.2]) (h3 : flat (m2 (mul2 (of2 y) (of2 y))) = flat (m2 (IU x))) : Gives prog 33 [.t (.ag [.n 6 x.1, .n 6 x.2, .n 6 y.1, .n 6 y.2, .c (.bool false)])] (.v (.bool true)) :=
 qa (P := prog) (env := [zU, AN, rD, sv, xj]) ⟨sU, uW, qG, qU, rX, tt0⟩ func33 1 (oL [(23, wO 0), (29, wO 0), (42, wO 0)]) (by kernel_rfl) (ai (show flat (m2 (mul2 (of2 y) (of2 y))) = flat (m2 (IU x)) from h3) (ai (show flat (Dx y) = flat [.n 6 y.1, .n 6 y.2] from h2)
   (Ot y hx hy h).down))
abbrev Jv : List Ch := [.c (.int .u64 0), .c (.int .u64 0), .c (.int .u64 0), .c (.int .u64 0), .c (.int .u64 0), .c (.int .u64 0), .c (.int .u64 0), .c (.int .u64 0), .c (.int .u64 0), .c (.int .u64 0), .c (.int .u64 0), .c (.int .u64 0), .c (.int .u64 0), .c (.int .u64 0), .c (.int .u64 0), .c (.int .u64 0), .c (.int .u64 0), .c (.int .u64 0), .c (.int .u64 0), .c (.int .u64 0), .c (.int .u64 0), .c (.int .u64 0), .c (.int .u64 0), .c (.int .u64 0), .c (.bool true)]
abbrev JV (x : N2) (y : N2) : List Ch := [.n 6 x.1, .n 6 x.2, .n 6 y.1, .n 6 y.2, .c (.bool true)]
theorem Qn (x y : N2) (h : flat (JV x y) = flat Jv) : Gives prog 33 [.t (.ag [.n 6 x.1, .n 6 x.2, .n 6 y.1, .n 6 y.2, .c (.bool true)])] (.v (.bool true)) :=
 qa (P := prog) (env := [zU, AN, rD, sv, xj]) ⟨sU, uW, qG, qU, rX, tt0⟩ func33 1 (oL [(6, wO 0)]) (by kernel_rfl) (ai (show flat (JV x y) = flat Jv from h) tt0)
theorem QL (x y : N2) (h : ¬ flat (JV x y) = flat Jv) : Gives prog 33 [.t (.ag [.n 6 x.1, .n 6 x.2, .n 6 y.1, .n 6 y.2, .c (.bool true)])] (.v (.bool false)) :=
 qa (P := prog) (env := [zU, AN, rD, sv, xj]) ⟨sU, uW, qG, qU, rX, tt0⟩ func33 1 (oL [(6, wO 1)]) (by kernel_rfl) (ai (show ¬ flat (JV x y) = flat Jv from h) tt0)
theorem Cz (x y : N2) : flat (m2 (mul2 (of2 y) (of2 y))) = flat (m2 (qR (mul2 (mul2 (of2 x) (of2 x)) (of2 x)) (ofP (4 % 18446744073709551616), ofP (4 % 18446744073709551616)))) ↔ mul2 (of2 y) (of2 y) = Ef (of2 x) := by
 rw [show (4 % 18446744073709551616 : Nat) = 4 from rfl]
 unfold Ef
 exact ⟨fun e => Gf e, fun e => by rw [e]⟩
theorem PM (a : A2) (hs : sml2 a) (h : may2 a) : Gives prog 33 [.t (.ag [.n 6 a.1.1, .n 6 a.1.2, .n 6 a.2.1.1, .n 6 a.2.1.2, .c (.bool a.2.2)])] (.v (.bool true)) := by
 obtain ⟨x, y, b⟩ := a
 obtain ⟨hx, hy⟩ := hs
 cases b with
 | true => exact Qn x y ((Dd hx hy true).2 (by simpa only [may2, if_true] using h))
 | false =>
  have h : is2 x /\ is2 y /\ mul2 (of2 y) (of2 y) = Ef (of2 x) := h
  exact Ta x y hx hy ((u9 hx).2 h.1) ((u9 hy).2 h.2.1) ((Cz x y).2 h.2.2)
theorem PY (a : A2) (hs : sml2 a) (h : ¬ may2 a) : Gives prog 33 [.t (.ag [.n 6 a.1.1, .n 6 a.1.2, .n 6 a.2.1.1, .n 6 a.2.1.2, .c (.bool a.2.2)])] (.v (.bool false)) := by
 obtain ⟨x, y, b⟩ := a
 obtain ⟨hx, hy⟩ := hs
 cases b with
 | true => exact QL x y (fun e => h (by simpa only [may2, if_true] using (Dd hx hy true).1 e))
 | false =>
  have h : ¬ (is2 x /\ is2 y /\ mul2 (of2 y) (of2 y) = Ef (of2 x)) := h
  by_cases h1 : is2 x
  ·by_cases h2 : is2 y
   ·exact Qx x y hx hy ((u9 hx).2 h1) ((u9 hy).2 h2) (fun e => h ⟨h1, h2, (Cz x y).1 e⟩)
   ·exact Py x y hx hy ((u9 hx).2 h1) (fun e => h2 ((u9 hy).1 e))
  ·exact Qw x y hx hy (fun e => h1 ((u9 hx).1 e))
def IC (a : A2) : ve := [(some (sml2 a /\ may2 a), .v (.bool true)), (some (sml2 a /\ ¬ may2 a), .v (.bool false))]
theorem FJ {f : FuncId} {args : A2 -> List XV} (h1 : ∀ a, sml2 a -> may2 a -> Gives prog f (args a) (.v (.bool true))) (h2 : ∀ a, sml2 a -> ¬ may2 a -> Gives prog f (args a) (.v (.bool false))) : ∀ a c r, (c, r) ∈ IC a -> c.getD True -> Gives prog f (args a) r := by
 intro a c r hm hc
 simp only [IC, List.mem_cons, pi0, List.not_mem_nil, or_false] at hm
 rcases hm with ⟨rfl, rfl⟩ | ⟨rfl, rfl⟩
 ·exact h1 a hc.1 hc.2
 ·exact h2 a hc.1 hc.2
def Vo : Entry := qA 33 JB.x IC
theorem JS : Vo.OK prog := qj (fun args w => Go.Proofs.enters_of (P := prog) func33 (by kernel_rfl) rfl args w) (FJ PM PY)
theorem NK (a : A2) (hs : sml2 a) (h : may2 a) : Gives prog 12 [.t (.ag [.n 6 a.1.1, .n 6 a.1.2, .n 6 a.2.1.1, .n 6 a.2.1.2, .c (.bool a.2.2)])] (.v (.bool true)) :=
 qa (P := prog) (env := [Vo]) ⟨JS, tt0⟩ func12 0 (oL [(3, wO 0)]) (by kernel_rfl) (ai (show sml2 a /\ may2 a from ⟨hs, h⟩) tt0)
theorem MT (a : A2) (hs : sml2 a) (h : ¬ may2 a) : Gives prog 12 [.t (.ag [.n 6 a.1.1, .n 6 a.1.2, .n 6 a.2.1.1, .n 6 a.2.1.2, .c (.bool a.2.2)])] (.v (.bool false)) :=
 qa (P := prog) (env := [Vo]) ⟨JS, tt0⟩ func12 0 (oL [(3, wO 1)]) (by kernel_rfl) (ai (show sml2 a /\ ¬ may2 a from ⟨hs, h⟩) tt0)
def CV : Entry := qA 12 JB.x IC
theorem v8 : CV.OK prog := qj (fun args w => Go.Proofs.enters_of (P := prog) func12 (by kernel_rfl) rfl args w) (FJ NK MT)
theorem PL (x y : N2) : Gives prog 14 [.t (.ag [.n 6 x.1, .n 6 x.2, .n 6 y.1, .n 6 y.2, .c (.bool true)])] (.ag [.m (ofP (1 % 18446744073709551616)), .c (.int .u64 0), .c (.int .u64 0), .c (.int .u64 0), .c (.int .u64 0), .c (.int .u64 0), .c (.int .u64 0), .m (ofP (1 % 18446744073709551616)), .c (.int .u64 0), .c (.int .u64 0), .c (.int .u64 0), .c (.int .u64 0), .c (.int .u64 0), .c (.int .u64 0), .c (.int .u64 0), .c (.int .u64 0), .c (.int .u64 0), .c (.int .u64 0), .c (.int .u64 0), .c (.int .u64 0), .c (.int .u64 0), .c (.int .u64 0), .c (.int .u64 0), .c (.int .u64 0), .c (.int .u64 0), .c (.int .u64 0)]) :=
 qa (P := prog) (env := [zU, xj]) ⟨sU, rX, tt0⟩ func14 0 (oL []) (by kernel_rfl) trivial
theorem Qg (x y : N2) (hx : qP x) (hy : qP y) : Gives prog 14 [.t (.ag [.n 6 x.1, .n 6 x.2, .n 6 y.1, .n 6 y.2, .c (.bool false)])] (.ag [.m (of2 x).1, .m (of2 x).2, .m (of2 y).1, .m (of2 y).2, .m (ofP (1 % 18446744073709551616)), .c (.int .u64 0), .c (.int .u64 0), .c (.int .u64 0), .c (.int .u64 0), .c (.int .u64 0), .c (.int .u64 0)]) :=
 qa (P := prog) (env := [zU, xj]) ⟨sU, rX, tt0⟩ func14 0 (oL []) (by kernel_rfl) (ai (show qP y from hy) (ai (show qP x from hx) tt0))
theorem Lw (x y : N2) : in2 (x, y, false) = (of2 x, of2 y, (1, 0)) := by unfold in2; exact if_neg (by simp)
theorem Nf (x y : N2) : in2 (x, y, true) = ((1, 0), (1, 0), (0, 0)) := by unfold in2; exact if_pos rfl
theorem ME : flat [.m (ofP (1 % 18446744073709551616)), .c (.int .u64 0), .c (.int .u64 0), .c (.int .u64 0), .c (.int .u64 0), .c (.int .u64 0), .c (.int .u64 0)] = flat [.m (1 : Fin Pp), .m 0] := by kernel_rfl
theorem T7 : flat [.c (.int .u64 0), .c (.int .u64 0), .c (.int .u64 0), .c (.int .u64 0), .c (.int .u64 0), .c (.int .u64 0), .c (.int .u64 0), .c (.int .u64 0), .c (.int .u64 0), .c (.int .u64 0), .c (.int .u64 0), .c (.int .u64 0)] = flat [.m (0 : Fin Pp), .m 0] := by kernel_rfl
theorem KW (x y : F2) : flat [.m x.1, .m x.2, .m y.1, .m y.2, .m (ofP (1 % 18446744073709551616)), .c (.int .u64 0), .c (.int .u64 0), .c (.int .u64 0), .c (.int .u64 0), .c (.int .u64 0), .c (.int .u64 0)] = flat (pc2 (x, y, (1, 0))) := by
 show flat ([.m x.1, .m x.2, .m y.1, .m y.2] ++ [.m (ofP (1 % 18446744073709551616)), .c (.int .u64 0), .c (.int .u64 0), .c (.int .u64 0), .c (.int .u64 0), .c (.int .u64 0), .c (.int .u64 0)]) = flat ([.m x.1, .m x.2, .m y.1, .m y.2] ++ [.m (1 : Fin Pp), .m 0])
 rw [qk, qk, ME]
theorem Lf : flat [.m (ofP (1 % 18446744073709551616)), .c (.int .u64 0), .c (.int .u64 0), .c (.int .u64 0), .c (.int .u64 0), .c (.int .u64 0), .c (.int .u64 0), .m (ofP (1 % 18446744073709551616)), .c (.int .u64 0), .c (.int .u64 0), .c (.int .u64 0), .c (.int .u64 0), .c (.int .u64 0), .c (.int .u64 0), .c (.int .u64 0), .c (.int .u64 0), .c (.int .u64 0), .c (.int .u64 0), .c (.int .u64 0), .c (.int .u64 0), .c (.int .u64 0), .c (.int .u64 0), .c (.int .u64 0), .c (.int .u64 0), .c (.int .u64 0), .c (.int .u64 0)] = flat (pc2 ((1, 0), (1, 0), (0, 0))) := by
 show flat ([.m (ofP (1 % 18446744073709551616)), .c (.int .u64 0), .c (.int .u64 0), .c (.int .u64 0), .c (.int .u64 0), .c (.int .u64 0), .c (.int .u64 0)] ++ ([.m (ofP (1 % 18446744073709551616)), .c (.int .u64 0), .c (.int .u64 0), .c (.int .u64 0), .c (.int .u64 0), .c (.int .u64 0), .c (.int .u64 0)] ++ [.c (.int .u64 0), .c (.int .u64 0), .c (.int .u64 0), .c (.int .u64 0), .c (.int .u64 0), .c (.int .u64 0), .c (.int .u64 0), .c (.int .u64 0), .c (.int .u64 0), .c (.int .u64 0), .c (.int .u64 0), .c (.int .u64 0)])) = flat ([.m (1 : Fin Pp), .m 0] ++ ([.m (1 : Fin Pp), .m 0] ++ [.m (0 : Fin Pp), .m 0]))
 simp only [qk]
 rw [ME, T7]
theorem ZX (a : A2) (hs : sml2 a) : Gives prog 14 [.t (.ag [.n 6 a.1.1, .n 6 a.1.2, .n 6 a.2.1.1, .n 6 a.2.1.2, .c (.bool a.2.2)])] (.ag (pc2 (in2 a))) := by
 obtain ⟨x, y, b⟩ := a
 obtain ⟨hx, hy⟩ := hs
 cases b with
 | true => rw [Nf x y]; exact Gives.same (PL x y) (qX rfl rfl Lf).symm
 | false => rw [Lw x y]; exact Gives.same (Qg x y hx hy) (qX rfl rfl (KW _ _)).symm
def FK : Entry := qA 14 JB.x (fun a => [(some (sml2 a), .ag (pc2 (in2 a)))])
theorem yf : FK.OK prog := qj (fun args w => Go.Proofs.enters_of (P := prog) func14 (by kernel_rfl) rfl args w) (fun a => sZ (fun h => ZX a h))
def QM : Entry := wL 73 [(none, .ag [.c (.int .u64 18446744069414584321), .c (.int .u64 6034159408538082302), .c (.int .u64 3691218898639771653), .c (.int .u64 8353516859464449352)])]
theorem EC : QM.OK prog := ud (fun args w => Go.Proofs.enters_of (P := prog) func73 (by kernel_rfl) rfl args w)
 (only (qa (P := prog) (env := []) trivial func73 0 o0 (by kernel_rfl) tt0))
theorem R4 : Rr < 115792089237316195423570985008687907853269984665640564039457584007913129639936 := by decide
def OF (a : A2) (hs : sml2 a) (h : may2 a) := PLift.up (ai R4 (ai (show sml2 a from hs) (ai (show sml2 a /\ may2 a from ⟨hs, h⟩) tt0)))
theorem OX (a : A2) (hs : sml2 a) (h : may2 a) (g : C6 a) : Gives prog 52 [.t (.ag [.n 6 a.1.1, .n 6 a.1.2, .n 6 a.2.1.1, .n 6 a.2.1.2, .c (.bool a.2.2)])] (.v (.bool true)) :=
 qa (P := prog) (env := [CV, FK, QM, CN, ws]) ⟨v8, yf, EC, yq, sA, tt0⟩ func52 0 (oL [(3, wO 0), (10, wO 0)]) (by kernel_rfl) (ai (show (man2 (in2 a) Rr 64).2.2 = (0, 0) from g)
   (OF a hs h).down)
theorem OG (a : A2) (hs : sml2 a) (h : may2 a) (g : ¬ C6 a) : Gives prog 52 [.t (.ag [.n 6 a.1.1, .n 6 a.1.2, .n 6 a.2.1.1, .n 6 a.2.1.2, .c (.bool a.2.2)])] (.v (.bool false)) :=
 qa (P := prog) (env := [CV, FK, QM, CN, ws]) ⟨v8, yf, EC, yq, sA, tt0⟩ func52 0 (oL [(3, wO 0), (10, wO 1)]) (by kernel_rfl) (ai (show ¬ (man2 (in2 a) Rr 64).2.2 = (0, 0) from g)
   (OF a hs h).down)
theorem Qc (a : A2) (hs : sml2 a) (h : ¬ may2 a) : Gives prog 52 [.t (.ag [.n 6 a.1.1, .n 6 a.1.2, .n 6 a.2.1.1, .n 6 a.2.1.2, .c (.bool a.2.2)])] (.v (.bool false)) :=
 qa (P := prog) (env := [CV, FK, QM, CN, ws]) ⟨v8, yf, EC, yq, sA, tt0⟩ func52 0 (oL [(3, wO 1)]) (by kernel_rfl) (ai (show sml2 a /\ ¬ may2 a from ⟨hs, h⟩) tt0)
def RL : Entry := qA 52 JB.x (fun a => [(some (sml2 a /\ may2 a /\ C6 a), .v (.bool true)), (some (sml2 a /\ may2 a /\ ¬ C6 a), .v (.bool false)), (some (sml2 a /\ ¬ may2 a), .v (.bool false))])
theorem Nk : RL.OK prog := qj (fun args w => Go.Proofs.enters_of (P := prog) func52 (by kernel_rfl) rfl args w) (fun a c r hm hc => by
 simp only [List.mem_cons, pi0, List.not_mem_nil, or_false] at hm
 rcases hm with ⟨rfl, rfl⟩ | ⟨rfl, rfl⟩ | ⟨rfl, rfl⟩
 ·exact OX a hc.1 hc.2.1 hc.2.2
 ·exact OG a hc.1 hc.2.1 hc.2.2
 ·exact Qc a hc.1 hc.2)
end Go.Proofs.YtfbkefgoblcmpaaGreat
set_option linter.unusedSimpArgs false
set_option linter.unusedVariables false
namespace Go.Proofs.YtfbkefgoblcmpaaGreat
open Go.Ev Go.RowKit
open Tryz
end Go.Proofs.YtfbkefgoblcmpaaGreat
set_option linter.unusedVariables false
namespace Go.Proofs.YtfbkefgoblcmpaaGreat
open Go.Ev Go.RowKit
open Tryz
end Go.Proofs.YtfbkefgoblcmpaaGreat
set_option linter.unusedSimpArgs false
set_option linter.unusedVariables false
namespace Go.Proofs.YtfbkefgoblcmpaaGreat
open Go.Ev Go.RowKit
open Tryz
end Go.Proofs.YtfbkefgoblcmpaaGreat
set_option linter.unusedSimpArgs false
set_option linter.unusedVariables false
namespace Go.Proofs.YtfbkefgoblcmpaaGreat
open Go.Ev Go.RowKit
open Tryz
def pc1 (p : Pt1) : List Ch := [.m (p).1, .m (p).2.1, .m (p).2.2]
def BY : Par Pt1 := (vw.pair (vw.pair vw))
def wo : Entry := Gm
theorem sC : wo.OK prog := Fw
theorem Ou (p : Pt1) (h : p.2.2 = 0) : Gives prog 46 [.t (.ag (pc1 p))] (.ag (pc1 (rl p))) := by
 unfold rl
 rw [if_pos h]
 exact qa (P := prog) (env := [wo, sE, tg, rf]) ⟨sC, q7, rI, qB, tt0⟩ func46 0 (oL [(5, wO 0)]) (by kernel_rfl) (ai h tt0)
theorem Lq (p : Pt1) (h : p.2.2 ≠ 0) : Gives prog 46 [.t (.ag (pc1 p))] (.ag (pc1 (rl p))) := by
 unfold rl
 rw [if_neg h]
 exact qa (P := prog) (env := [wo, sE, tg, rf]) ⟨sC, q7, rI, qB, tt0⟩ func46 0 (oL [(5, wO 1)]) (by kernel_rfl) (ai h tt0)
def uh : Entry := qA 46 BY.x (fun p => [(none, .ag (pc1 (rl p)))])
theorem sc : uh.OK prog := qj (fun args w => Go.Proofs.enters_of (P := prog) func46 (by kernel_rfl) rfl args w) (fun p => only (by
 by_cases h : p.2.2 = 0
 ·exact Ou p h
 ·exact Lq p h))
theorem VT (p q : Pt1) : Gives prog 45 [.t (.ag (pc1 p)), .t (.ag (pc1 q))] (.ag (pc1 (tI p q))) := by
 unfold tI
 by_cases h1 : p.2.2 = 0
 ·rw [if_pos h1]
  exact qa (P := prog) (env := [wo, uh, sE, tg, rf]) ⟨sC, sc, q7, rI, qB, tt0⟩ func45 0 (oL [(6, wO 0)]) (by kernel_rfl) (ai h1 tt0)
 ·rw [if_neg h1]
  by_cases h2 : q.2.2 = 0
  ·rw [if_pos h2]
   exact qa (P := prog) (env := [wo, uh, sE, tg, rf]) ⟨sC, sc, q7, rI, qB, tt0⟩ func45 0 (oL [(6, wO 1), (11, wO 0)]) (by kernel_rfl) (ai h2 (ai h1 tt0))
  ·rw [if_neg h2]
   by_cases h3 : hP1 p q = 0
   ·rw [if_pos h3]
    by_cases h4 : rP1 p q = 0
    ·rw [if_pos h4]
     exact qa (P := prog) (env := [wo, uh, sE, tg, rf]) ⟨sC, sc, q7, rI, qB, tt0⟩ func45 0 (oL [(6, wO 1), (11, wO 1), (79, wO 0), (82, wO 0)]) (by kernel_rfl) (ai h4 (ai h3 (ai h2 (ai h1 tt0))))
    ·rw [if_neg h4]
     refine Gives.same (r := .ag ([.m p.1, .m p.2.1, .c (.int .u64 0), .c (.int .u64 0), .c (.int .u64 0), .c (.int .u64 0), .c (.int .u64 0), .c (.int .u64 0)])) (qa (P := prog) (env := [wo, uh, sE, tg, rf]) ⟨sC, sc, q7, rI, qB, tt0⟩ func45 0 (oL [(6, wO 1), (11, wO 1), (79, wO 0), (82, wO 1)]) (by kernel_rfl) (ai h4 (ai h3 (ai h2 (ai h1 tt0))))) (qX rfl rfl ?_)
     show flat ([.m p.1, .m p.2.1] ++ [.m (0 : Fin Pp)]) = flat ([.m p.1, .m p.2.1] ++ [.c (.int .u64 0), .c (.int .u64 0), .c (.int .u64 0), .c (.int .u64 0), .c (.int .u64 0), .c (.int .u64 0)])
     rw [qk, qk, Cx]
   ·rw [if_neg h3]
    exact qa (P := prog) (env := [wo, uh, sE, tg, rf]) ⟨sC, sc, q7, rI, qB, tt0⟩ func45 0 (oL [(6, wO 1), (11, wO 1), (79, wO 1)]) (by kernel_rfl) (ai h3 (ai h2 (ai h1 tt0)))
def zy : Entry := sq 45 BY.x BY.x (fun p q => [(none, .ag (pc1 (tI p q)))])
theorem va : zy.OK prog := q6 (fun args w => Go.Proofs.enters_of (P := prog) func45 (by kernel_rfl) rfl args w) (fun p q => only (VT p q))
def Cr (p : Pt1) : List Ch := [.m p.1, .m p.2.1, .c (.int .u64 0), .c (.int .u64 0), .c (.int .u64 0), .c (.int .u64 0), .c (.int .u64 0), .c (.int .u64 0), .m (tab1 p 1).1, .m (tab1 p 1).2.1, .m (tab1 p 1).2.2, .m (tab1 p 2).1, .m (tab1 p 2).2.1, .m (tab1 p 2).2.2, .m (tab1 p 3).1, .m (tab1 p 3).2.1, .m (tab1 p 3).2.2, .m (tab1 p 4).1, .m (tab1 p 4).2.1, .m (tab1 p 4).2.2, .m (tab1 p 5).1, .m (tab1 p 5).2.1, .m (tab1 p 5).2.2, .m (tab1 p 6).1, .m (tab1 p 6).2.1, .m (tab1 p 6).2.2, .m (tab1 p 7).1, .m (tab1 p 7).2.1, .m (tab1 p 7).2.2, .m (tab1 p 8).1, .m (tab1 p 8).2.1, .m (tab1 p 8).2.2, .m (tab1 p 9).1, .m (tab1 p 9).2.1, .m (tab1 p 9).2.2, .m (tab1 p 10).1, .m (tab1 p 10).2.1, .m (tab1 p 10).2.2, .m (tab1 p 11).1, .m (tab1 p 11).2.1, .m (tab1 p 11).2.2, .m (tab1 p 12).1, .m (tab1 p 12).2.1, .m (tab1 p 12).2.2, .m (tab1 p 13).1, .m (tab1 p 13).2.1, .m (tab1 p 13).2.2, .m (tab1 p 14).1, .m (tab1 p 14).2.1, .m (tab1 p 14).2.2, .m (tab1 p 15).1, .m (tab1 p 15).2.1, .m (tab1 p 15).2.2]
theorem MV (p : Pt1) : (flat (pc1 p)).length = 18 := by rw [so]; rfl
theorem Hi (p : Pt1) : flat (Cr p) = (List.range 16).flatMap (fun j => flat (pc1 (tab1 p j))) := by
 have e0 : flat (pc1 (tab1 p 0)) = flat [.m p.1, .m p.2.1, .c (.int .u64 0), .c (.int .u64 0), .c (.int .u64 0), .c (.int .u64 0), .c (.int .u64 0), .c (.int .u64 0)] := by
  show flat ([.m p.1, .m p.2.1] ++ [.m (0 : Fin Pp)]) = flat ([.m p.1, .m p.2.1] ++ [.c (.int .u64 0), .c (.int .u64 0), .c (.int .u64 0), .c (.int .u64 0), .c (.int .u64 0), .c (.int .u64 0)])
  rw [qk, qk, Cx]
 have e1 : Cr p = [.m p.1, .m p.2.1, .c (.int .u64 0), .c (.int .u64 0), .c (.int .u64 0), .c (.int .u64 0), .c (.int .u64 0), .c (.int .u64 0)] ++ (pc1 (tab1 p 1) ++ (pc1 (tab1 p 2) ++ (pc1 (tab1 p 3) ++ (pc1 (tab1 p 4) ++ (pc1 (tab1 p 5) ++ (pc1 (tab1 p 6) ++ (pc1 (tab1 p 7) ++ (pc1 (tab1 p 8) ++ (pc1 (tab1 p 9) ++ (pc1 (tab1 p 10) ++ (pc1 (tab1 p 11) ++ (pc1 (tab1 p 12) ++ (pc1 (tab1 p 13) ++ (pc1 (tab1 p 14) ++ pc1 (tab1 p 15))))))))))))))) := rfl
 rw [e1]
 simp only [qk, ← e0]
 simp [List.range_succ_eq_map, List.flatMap]
theorem Gh (p : Pt1) (j : Nat) (h : j < 16) : ((flat (Cr p)).drop (0 + j * 18)).take 18 = flat (pc1 (tab1 p j)) := by
 rw [Nat.zero_add, Hi]
 exact w9 (fun j => flat (pc1 (tab1 p j))) 18 (fun j => MV _) 16 j h
def vS (r : Array Tmp × Code × Code) (p : Pt1) (k : Nat) (b : Bool) (z : Int) (o : List Ch) : LState := { n := 32, sl := [(0, .yd 235), (1, .p 230 0), (3, .v (.bool b)), (4, vi0 z)], hp := [(0, .own (pc1 p) 61), (1, .own [.n 4 k] 25), (2, .own [.c (.int .u64 0), .c (.int .u64 0), .c (.int .u64 0), .c (.int .u64 0), .c (.int .u64 0), .c (.int .u64 0), .c (.int .u64 0), .c (.int .u64 0), .c (.int .u64 0), .c (.int .u64 0), .c (.int .u64 0), .c (.int .u64 0), .c (.int .u64 0), .c (.int .u64 0), .c (.int .u64 0), .c (.int .u64 0), .c (.int .u64 0), .c (.int .u64 0)] 61), (3, .own (Cr p) 97), (226, .own o 61), (230, .own [.n 4 k] 25), (234, .dfd),
 (235, .lp .ready none ⟨43, .any, trOf [(5, .p 3 0), (7, .p 226 0)]⟩ r.1 r.2.1 r.2.2 234)] }
def Mc (r : Array Tmp × Code × Code) (p : Pt1) (k : Nat) (o : List Ch) : LState := { n := 32, sl := [], hp := [(0, .own (pc1 p) 61), (1, .own [.n 4 k] 25), (2, .own [.c (.int .u64 0), .c (.int .u64 0), .c (.int .u64 0), .c (.int .u64 0), .c (.int .u64 0), .c (.int .u64 0), .c (.int .u64 0), .c (.int .u64 0), .c (.int .u64 0), .c (.int .u64 0), .c (.int .u64 0), .c (.int .u64 0), .c (.int .u64 0), .c (.int .u64 0), .c (.int .u64 0), .c (.int .u64 0), .c (.int .u64 0), .c (.int .u64 0)] 61), (3, .own (Cr p) 97), (226, .own o 61), (230, .own [.n 4 k] 25), (234, .dfd),
 (235, .lp .ready none ⟨43, .any, trOf [(5, .p 3 0), (7, .p 226 0)]⟩ r.1 r.2.1 r.2.2 234)] }
theorem Y6 (p q : Pt1) (k i : Nat) (hi : i < 64)  : Sound prog 236 false (ql f67 0) (vS (qd f19 0) p k true ((((i + 1 : Nat) : Int)) - 1) (pc1 q)).aa .normal (vS (qd f19 0) p k true (((i : Nat) : Int) - 1) (pc1 (tI (rl (rl (rl (rl q)))) (tab1 p (dig k i))))).aa := by
 have hs := qh (P := prog) (X := qE _) (env := [uh, zy]) ⟨sc, va, tt0⟩ (n := 2) (os := oL [(239, wO 1), (242, rO 2 (i / 16)), (243, rO 3 0), (247, rO 4 (4 * (i % 16))), (249, { ch := 1, hi := fun _ => dig k i }), (291, rO 2 (dig k i)), (292, { ch := 0, hi := fun _ => 0, ru := 8, cs := fun _ => pc1 (tab1 p (dig k i)) })]) (fb := 236) (rd := false) (c := ql f67 0) (k := 238) (I := vS (qd f19 0) p k true ((((i + 1 : Nat) : Int)) - 1) (pc1 q)) (sk := [0, 1, 3, 4]) (hk := [0, 1, 2, 3, 226, 230, 234, 235]) (lk := [(235, [5, 7])]) (ex := .normal)
  (L := vS (qd f19 0) p k true (IntKind.i64.wrap ((((i + 1 : Nat) : Int) - 1) - 1)) (pc1 (tI (rl (rl (rl (rl q)))) (tab1 p (dig k i))))) (by kernel_rfl) (ai (show sizes (pc1 (tab1 p (dig k i))) = 18 /\ ((flat (Cr p)).drop (0 + dig k i * 18)).take 18 = flat (pc1 (tab1 p (dig k i))) from ⟨rfl, Gh p _ (wP k i)⟩) (ai (show ((dig k i : Nat) : Int) = ((dig k i : Nat) : Int) /\ dig k i < 16 from ⟨rfl, wP k i⟩) (ai (z8 k i) (ai (Ax i) (ai (show 0 + i / 16 * 1 < 4 from by omega) (ai (As i hi) (ai (show decide (((((i + 1 : Nat) : Int)) - 1) >= 0) = true from decide_eq_true (by omega)) tt0)))))))
 rw [show IntKind.i64.wrap ((((i + 1 : Nat) : Int) - 1) - 1) = ((i : Nat) : Int) - 1 by rw [qm]; omega] at hs
 exact hs
theorem W6 (p q : Pt1) (k i : Nat) (hi : i < 64) (hd : ((dig k i : Nat) : Int) > 0) : Sound prog 236 false (ql f67 0) (vS (qd f19 0) p k false ((((i + 1 : Nat) : Int)) - 1) (pc1 q)).aa .normal (vS (qd f19 0) p k true (((i : Nat) : Int) - 1) (pc1 (tI (rl (rl (rl (rl q)))) (tab1 p (dig k i))))).aa := by
 have hs := qh (P := prog) (X := qE _) (env := [uh, zy]) ⟨sc, va, tt0⟩ (n := 2) (os := oL [(239, wO 1), (242, rO 2 (i / 16)), (243, rO 3 0), (247, rO 4 (4 * (i % 16))), (249, { ch := 1, hi := fun _ => dig k i }), (254, wO 1), (291, rO 2 (dig k i)), (292, { ch := 0, hi := fun _ => 0, ru := 8, cs := fun _ => pc1 (tab1 p (dig k i)) })]) (fb := 236) (rd := false) (c := ql f67 0) (k := 238) (I := vS (qd f19 0) p k false ((((i + 1 : Nat) : Int)) - 1) (pc1 q)) (sk := [0, 1, 3, 4]) (hk := [0, 1, 2, 3, 226, 230, 234, 235]) (lk := [(235, [5, 7])]) (ex := .normal)
  (L := vS (qd f19 0) p k true (IntKind.i64.wrap ((((i + 1 : Nat) : Int) - 1) - 1)) (pc1 (tI (rl (rl (rl (rl q)))) (tab1 p (dig k i))))) (by kernel_rfl) (ai (show sizes (pc1 (tab1 p (dig k i))) = 18 /\ ((flat (Cr p)).drop (0 + dig k i * 18)).take 18 = flat (pc1 (tab1 p (dig k i))) from ⟨rfl, Gh p _ (wP k i)⟩) (ai (show ((dig k i : Nat) : Int) = ((dig k i : Nat) : Int) /\ dig k i < 16 from ⟨rfl, wP k i⟩) (ai (show decide (((dig k i : Nat) : Int) > 0) = true from decide_eq_true hd) (ai (z8 k i) (ai (Ax i) (ai (show 0 + i / 16 * 1 < 4 from by omega) (ai (As i hi) (ai (show decide (((((i + 1 : Nat) : Int)) - 1) >= 0) = true from decide_eq_true (by omega)) tt0))))))))
 rw [show IntKind.i64.wrap ((((i + 1 : Nat) : Int) - 1) - 1) = ((i : Nat) : Int) - 1 by rw [qm]; omega] at hs
 exact hs
theorem Wu (p q : Pt1) (k i : Nat) (hi : i < 64) (hd : ¬ ((dig k i : Nat) : Int) > 0) : Sound prog 236 false (ql f67 0) (vS (qd f19 0) p k false ((((i + 1 : Nat) : Int)) - 1) (pc1 q)).aa .normal (vS (qd f19 0) p k false (((i : Nat) : Int) - 1) (pc1 q)).aa := by
 have hs := qh (P := prog) (X := qE _) (env := [uh, zy]) ⟨sc, va, tt0⟩ (n := 2) (os := oL [(239, wO 1), (242, rO 2 (i / 16)), (243, rO 3 0), (247, rO 4 (4 * (i % 16))), (249, { ch := 1, hi := fun _ => dig k i }), (254, wO 2)]) (fb := 236) (rd := false) (c := ql f67 0) (k := 238) (I := vS (qd f19 0) p k false ((((i + 1 : Nat) : Int)) - 1) (pc1 q)) (sk := [0, 1, 3, 4]) (hk := [0, 1, 2, 3, 226, 230, 234, 235]) (lk := [(235, [5, 7])]) (ex := .normal)
  (L := vS (qd f19 0) p k false (IntKind.i64.wrap ((((i + 1 : Nat) : Int) - 1) - 1)) (pc1 q)) (by kernel_rfl) (ai (show decide (((dig k i : Nat) : Int) > 0) = false from decide_eq_false hd) (ai (z8 k i) (ai (Ax i) (ai (show 0 + i / 16 * 1 < 4 from by omega) (ai (As i hi) (ai (show decide (((((i + 1 : Nat) : Int)) - 1) >= 0) = true from decide_eq_true (by omega)) tt0))))))
 rw [show IntKind.i64.wrap ((((i + 1 : Nat) : Int) - 1) - 1) = ((i : Nat) : Int) - 1 by rw [qm]; omega] at hs
 exact hs
theorem Qt (p q : Pt1) (k : Nat) (b : Bool) : Sound prog 236 false (ql f67 0) (vS (qd f19 0) p k b (((0 : Nat) : Int) - 1) (pc1 q)).aa (.exit 0) (Mc (qd f19 0) p k (pc1 q)).aa :=
 qh (P := prog) (X := qE _) (env := []) trivial (n := 2) (os := oL [(239, wO 2)]) (fb := 236) (rd := false) (c := ql f67 0) (k := 238) (I := vS (qd f19 0) p k b (((0 : Nat) : Int) - 1) (pc1 q)) (sk := []) (hk := [0, 1, 2, 3, 226, 230, 234, 235]) (lk := [(235, [5, 7])]) (ex := .exit 0)
  (L := Mc (qd f19 0) p k (pc1 q)) (by kernel_rfl) Lv.down
theorem Me (p : Pt1) (k : Nat) (hk : k < 115792089237316195423570985008687907853269984665640564039457584007913129639936) (y : { i : Nat // i <= 64 }) : Sound prog 236 false (.loop (ql f67 0)) (vS (qd f19 0) p k (bgn k (64 - y.val)) (((y.val : Nat) : Int) - 1) (pc1 (man1 p k (64 - y.val)))).aa (.exit 0) (Mc (qd f19 0) p k (pc1 (man1 p k 64))).aa := by
 refine sT (m := fun y : { i : Nat // i <= 64 } => y.val) (fun y => vS (qd f19 0) p k (bgn k (64 - y.val)) (((y.val : Nat) : Int) - 1) (pc1 (man1 p k (64 - y.val)))) (by simp) (fun y => ?_) y
 obtain ⟨i, hi⟩ := y
 cases i with
 | zero => exact .inr (Qt p _ k _)
 | succ i =>
  refine .inl ⟨⟨i, by omega⟩, Nat.lt_succ_self i, ?_⟩
  have e1 : 64 - i = (64 - (i + 1)) + 1 := by omega
  have e2 : 63 - (64 - (i + 1)) = i := by omega
  have hb := CJ k (64 - (i + 1)) (by omega)
  rw [e2, ← e1] at hb
  have hm : man1 p k (64 - i) = tI (rl (rl (rl (rl (man1 p k (64 - (i + 1))))))) (tab1 p (dig k i)) := by
   rw [e1]
   show tI _ (tab1 p (dig k (63 - (64 - (i + 1))))) = _
   rw [e2]
  simp only
  rw [hm]
  cases hc : bgn k (64 - (i + 1)) with
  | true =>
   rw [hc] at hb
   simp only [Bool.true_or] at hb
   rw [hb]
   exact Y6 p _ k i (by omega)
  | false =>
   rw [hc] at hb
   simp only [Bool.false_or] at hb
   by_cases hd : ((dig k i : Nat) : Int) > 0
   ·rw [hb, decide_eq_true (by omega)]
    exact W6 p _ k i (by omega) hd
   ·have h0 : dig k i = 0 := by omega
    rw [hb, decide_eq_false (by omega)]
    have hn := DM p k (64 - (i + 1)) (EZ hk _ (by omega) hc)
    rw [hn, h0, tF _ rfl, tF _ rfl, tF _ rfl, tF _ rfl, CS _ _ rfl]
    exact Wu p _ k i (by omega) hd
theorem PU (p : Pt1) (k : Nat) (hk : k < 115792089237316195423570985008687907853269984665640564039457584007913129639936) : Sound prog 236 false (.loop (ql f67 0)) (vS (qd f19 0) p k false 63 [.m p.1, .m p.2.1, .c (.int .u64 0), .c (.int .u64 0), .c (.int .u64 0), .c (.int .u64 0), .c (.int .u64 0), .c (.int .u64 0)]).aa (.exit 0) (Mc (qd f19 0) p k (pc1 (man1 p k 64))).aa := by
 have hl := Me p k hk ⟨64, Nat.le_refl _⟩
 simp only [Nat.sub_self, Fs hk] at hl
 refine Sound.pre (J := vS (qd f19 0) p k false (((64 : Nat) : Int) - 1) (pc1 (man1 p k 0))) hl [] (by kernel_rfl) ?_
 have e0 : flat [.m p.1, .m p.2.1, .c (.int .u64 0), .c (.int .u64 0), .c (.int .u64 0), .c (.int .u64 0), .c (.int .u64 0), .c (.int .u64 0)] = flat (pc1 (man1 p k 0)) := by
  symm
  show flat ([.m p.1, .m p.2.1] ++ [.m (0 : Fin Pp)]) = flat ([.m p.1, .m p.2.1] ++ [.c (.int .u64 0), .c (.int .u64 0), .c (.int .u64 0), .c (.int .u64 0), .c (.int .u64 0), .c (.int .u64 0)])
  rw [qk, qk, Cx]
 exact ⟨⟨rfl, rr0, rfl, rfl, tt0⟩, ⟨rr0, rr0, rr0, rr0, ⟨rfl, e0⟩, rr0, tt0, ⟨⟨rfl, rfl, rfl, rfl, rfl, rfl, rfl⟩, vA (by kernel_rfl)⟩, tt0⟩⟩
abbrev Ma (p : Pt1) : List Ch := [.m p.1, .m p.2.1, .c (.int .u64 0), .c (.int .u64 0), .c (.int .u64 0), .c (.int .u64 0), .c (.int .u64 0), .c (.int .u64 0)]
theorem WS (p : Pt1) (k : Nat) (hk : Mr k) : Gives prog 19 [.t (.ag (pc1 p)), .t (.ag [.n 4 k])] (.ag (pc1 (man1 p k 64))) :=
 qb (P := prog) (X := qE _) (env := [uh, zy]) ⟨sc, va, tt0⟩ func19 2 (oL [(238, lpO { I := vS (qd f19 0) p k false 63 (Ma p), ex := .exit 0, E := Mc (qd f19 0) p k (pc1 (man1 p k 64)), fr := 239, lk := [(235, [5, 7])] })]) (by kernel_rfl) ⟨_, rfl⟩ (ai (show some (vS (qd f19 0) p k false 63 (Ma p)) = some (vS (qd f19 0) p k false 63 (Ma p)) from rfl) (ai (PU p k hk) tt0))
def Ci : Entry := sq 19 BY.x GR.x (fun p k => [(some (k < 115792089237316195423570985008687907853269984665640564039457584007913129639936), .ag (pc1 (man1 p k 64)))])
theorem yA : Ci.OK prog := q6 (fun args w => Go.Proofs.enters_of (P := prog) func19 (by kernel_rfl) rfl args w) (fun p k => sZ (fun h => WS p k h))
end Go.Proofs.YtfbkefgoblcmpaaGreat
set_option linter.unusedSimpArgs false
set_option linter.unusedVariables false
namespace Go.Proofs.YtfbkefgoblcmpaaGreat
open Go.Ev Go.RowKit
open Tryz
theorem QT (x y : Nat) (hx : small x) (hy : small y) (h : ¬ flat [.q (ofP x)] = flat [.n 6 x]) : Gives prog 41 [.t (.ag [.n 6 x, .n 6 y, .c (.bool false)])] (.v (.bool false)) :=
 qa (P := prog) (env := [EY, yQ, rf, sE, xj]) ⟨vJ, tG, qB, q7, rX, tt0⟩ func41 1 (oL [(18, wO 1)]) (by kernel_rfl) (ai (show ¬ flat [.q (ofP x)] = flat [.n 6 x] from h) (ai (show smP y from hy) (ai (show smP x from hx) tt0)))
def N8 {x : Nat} (y : Nat) (hx : small x) (hy : small y) (h : flat [.q (ofP x)] = flat [.n 6 x]) := PLift.up (ai (show flat [.q (ofP x)] = flat [.n 6 x] from h) (ai (show smP y from hy) (ai (show smP x from hx) tt0)))
theorem Re (x y : Nat) (hx : small x) (hy : small y) (h : flat [.q (ofP x)] = flat [.n 6 x]) (h2 : ¬ flat [.q (ofP y)] = flat [.n 6 y]) : Gives prog 41 [.t (.ag [.n 6 x, .n 6 y, .c (.bool false)])] (.v (.bool false)) :=
 qa (P := prog) (env := [EY, yQ, rf, sE, xj]) ⟨vJ, tG, qB, q7, rX, tt0⟩ func41 1 (oL [(18, wO 0), (24, wO 1)]) (by kernel_rfl) (ai (show ¬ flat [.q (ofP y)] = flat [.n 6 y] from h2)
   (N8 y hx hy h).down)
abbrev IL (x : Nat) : List Ch := [.m (ofP x * ofP x * ofP x + ofP (4 % 18446744073709551616))]
theorem Rk (x y : Nat) (hx : small x) (hy : small y) (h : flat [.q (ofP x)] = flat [.n 6 x]) (h2 : flat [.q (ofP y)] = flat [.n 6 y]) (h3 : ¬ flat [.m (ofP y * ofP y)] = flat (IL x)) : Gives prog 41 [.t (.ag [.n 6 x, .n 6 y, .c (.bool false)])] (.v (.bool false)) :=
 qa (P := prog) (env := [EY, yQ, rf, sE, xj]) ⟨vJ, tG, qB, q7, rX, tt0⟩ func41 1 (oL [(18, wO 0), (24, wO 0), (37, wO 1)]) (by kernel_rfl) (ai (show ¬ flat [.m (ofP y * ofP y)] = flat (IL x) from h3) (ai (show flat [.q (ofP y)] = flat [.n 6 y] from h2)
   (N8 y hx hy h).down))
theorem U3 (x y : Nat) (hx : small x) (hy : small y) (h : flat [.q (ofP x)] = flat [.n 6 x]) (h2 : flat [.q (ofP y)] = flat [.n 6 y]) (h3 : flat [.m (ofP y * ofP y)] = flat (IL x)) : Gives prog 41 [.t (.ag [.n 6 x, .n 6 y, .c (.bool false)])] (.v (.bool true)) :=
 qa (P := prog) (env := [EY, yQ, rf, sE, xj]) ⟨vJ, tG, qB, q7, rX, tt0⟩ func41 1 (oL [(18, wO 0), (24, wO 0), (37, wO 0)]) (by kernel_rfl) (ai (show flat [.m (ofP y * ofP y)] = flat (IL x) from h3) (ai (show flat [.q (ofP y)] = flat [.n 6 y] from h2)
   (N8 y hx hy h).down))
abbrev Jg : List Ch := [.c (.int .u64 0), .c (.int .u64 0), .c (.int .u64 0), .c (.int .u64 0), .c (.int .u64 0), .c (.int .u64 0), .c (.int .u64 0), .c (.int .u64 0), .c (.int .u64 0), .c (.int .u64 0), .c (.int .u64 0), .c (.int .u64 0), .c (.bool true)]
theorem Pm (x y : Nat) (h : flat [.n 6 x, .n 6 y, .c (.bool true)] = flat Jg) : Gives prog 41 [.t (.ag [.n 6 x, .n 6 y, .c (.bool true)])] (.v (.bool true)) :=
 qa (P := prog) (env := [EY, yQ, rf, sE, xj]) ⟨vJ, tG, qB, q7, rX, tt0⟩ func41 1 (oL [(6, wO 0)]) (by kernel_rfl) (ai (show flat [.n 6 x, .n 6 y, .c (.bool true)] = flat Jg from h) tt0)
theorem Ql (x y : Nat) (h : ¬ flat [.n 6 x, .n 6 y, .c (.bool true)] = flat Jg) : Gives prog 41 [.t (.ag [.n 6 x, .n 6 y, .c (.bool true)])] (.v (.bool false)) :=
 qa (P := prog) (env := [EY, yQ, rf, sE, xj]) ⟨vJ, tG, qB, q7, rX, tt0⟩ func41 1 (oL [(6, wO 1)]) (by kernel_rfl) (ai (show ¬ flat [.n 6 x, .n 6 y, .c (.bool true)] = flat Jg from h) tt0)
theorem B3 (x y : Nat) : flat [.m (ofP y * ofP y)] = flat [.m (ofP x * ofP x * ofP x + ofP (4 % 18446744073709551616))] ↔ ofP y * ofP y = C0 (ofP x) := by
 rw [show (4 % 18446744073709551616 : Nat) = 4 from rfl]
 unfold C0
 exact ⟨fun e => yS e, fun e => by rw [e]⟩
theorem O9 (a : A1) (hs : sml1 a) (h : may1 a) : Gives prog 41 [.t (.ag [.n 6 a.1, .n 6 a.2.1, .c (.bool a.2.2)])] (.v (.bool true)) := by
 obtain ⟨x, y, b⟩ := a
 obtain ⟨hx, hy⟩ := hs
 cases b with
 | true => exact Pm x y ((DR hx hy true).2 (by simpa only [may1, if_true] using h))
 | false =>
  have h : is1 x /\ is1 y /\ ofP y * ofP y = C0 (ofP x) := h
  exact U3 x y hx hy ((vh hx).2 h.1) ((vh hy).2 h.2.1) ((B3 x y).2 h.2.2)
theorem Qo (a : A1) (hs : sml1 a) (h : ¬ may1 a) : Gives prog 41 [.t (.ag [.n 6 a.1, .n 6 a.2.1, .c (.bool a.2.2)])] (.v (.bool false)) := by
 obtain ⟨x, y, b⟩ := a
 obtain ⟨hx, hy⟩ := hs
 cases b with
 | true => exact Ql x y (fun e => h (by simpa only [may1, if_true] using (DR hx hy true).1 e))
 | false =>
  have h : ¬ (is1 x /\ is1 y /\ ofP y * ofP y = C0 (ofP x)) := h
  by_cases h1 : is1 x
  ·by_cases h2 : is1 y
   ·exact Rk x y hx hy ((vh hx).2 h1) ((vh hy).2 h2) (fun e => h ⟨h1, h2, (B3 x y).1 e⟩)
   ·exact Re x y hx hy ((vh hx).2 h1) (fun e => h2 ((vh hy).1 e))
  ·exact QT x y hx hy (fun e => h1 ((vh hx).1 e))
def Jr (a : A1) : ve := [(some (sml1 a /\ may1 a), .v (.bool true)), (some (sml1 a /\ ¬ may1 a), .v (.bool false))]
theorem GL {f : FuncId} {args : A1 -> List XV} (h1 : ∀ a, sml1 a -> may1 a -> Gives prog f (args a) (.v (.bool true))) (h2 : ∀ a, sml1 a -> ¬ may1 a -> Gives prog f (args a) (.v (.bool false))) : ∀ a c r, (c, r) ∈ Jr a -> c.getD True -> Gives prog f (args a) r := by
 intro a c r hm hc
 simp only [Jr, List.mem_cons, pi0, List.not_mem_nil, or_false] at hm
 rcases hm with ⟨rfl, rfl⟩ | ⟨rfl, rfl⟩
 ·exact h1 a hc.1 hc.2
 ·exact h2 a hc.1 hc.2
def Vk : Entry := qA 41 I4.x Jr
theorem IK : Vk.OK prog := qj (fun args w => Go.Proofs.enters_of (P := prog) func41 (by kernel_rfl) rfl args w) (GL O9 Qo)
theorem LI (a : A1) (hs : sml1 a) (h : may1 a) : Gives prog 16 [.t (.ag [.n 6 a.1, .n 6 a.2.1, .c (.bool a.2.2)])] (.v (.bool true)) :=
 qa (P := prog) (env := [Vk]) ⟨IK, tt0⟩ func16 0 (oL [(3, wO 0)]) (by kernel_rfl) (ai (show sml1 a /\ may1 a from ⟨hs, h⟩) tt0)
theorem Oj (a : A1) (hs : sml1 a) (h : ¬ may1 a) : Gives prog 16 [.t (.ag [.n 6 a.1, .n 6 a.2.1, .c (.bool a.2.2)])] (.v (.bool false)) :=
 qa (P := prog) (env := [Vk]) ⟨IK, tt0⟩ func16 0 (oL [(3, wO 1)]) (by kernel_rfl) (ai (show sml1 a /\ ¬ may1 a from ⟨hs, h⟩) tt0)
def AB : Entry := qA 16 I4.x Jr
theorem uo : AB.OK prog := qj (fun args w => Go.Proofs.enters_of (P := prog) func16 (by kernel_rfl) rfl args w) (GL LI Oj)
theorem PZ (x y : Nat) : Gives prog 18 [.t (.ag [.n 6 x, .n 6 y, .c (.bool true)])] (.ag [.m (ofP (1 % 18446744073709551616)), .m (ofP (1 % 18446744073709551616)), .c (.int .u64 0), .c (.int .u64 0), .c (.int .u64 0), .c (.int .u64 0), .c (.int .u64 0), .c (.int .u64 0)]) :=
 qa (P := prog) (env := [EY, xj]) ⟨vJ, rX, tt0⟩ func18 0 (oL []) (by kernel_rfl) trivial
theorem PN (x y : Nat) (hx : small x) (hy : small y) : Gives prog 18 [.t (.ag [.n 6 x, .n 6 y, .c (.bool false)])] (.ag [.m (ofP x), .m (ofP y), .m (ofP (1 % 18446744073709551616))]) :=
 qa (P := prog) (env := [EY, xj]) ⟨vJ, rX, tt0⟩ func18 0 (oL []) (by kernel_rfl) (ai (show smP y from hy) (ai (show smP x from hx) tt0))
theorem Nl (x y : Nat) : in1 (x, y, false) = (ofP x, ofP y, 1) := by unfold in1; exact if_neg (by simp)
theorem NN (x y : Nat) : in1 (x, y, true) = (1, 1, 0) := by unfold in1; exact if_pos rfl
theorem K5 (x y : Fin Pp) : flat [.m x, .m y, .m (ofP (1 % 18446744073709551616))] = flat (pc1 (x, y, 1)) := rfl
theorem KV : flat [.m (ofP (1 % 18446744073709551616)), .m (ofP (1 % 18446744073709551616)), .c (.int .u64 0), .c (.int .u64 0), .c (.int .u64 0), .c (.int .u64 0), .c (.int .u64 0), .c (.int .u64 0)] = flat (pc1 (1, 1, 0)) := by kernel_rfl
theorem ZW (a : A1) (hs : sml1 a) : Gives prog 18 [.t (.ag [.n 6 a.1, .n 6 a.2.1, .c (.bool a.2.2)])] (.ag (pc1 (in1 a))) := by
 obtain ⟨x, y, b⟩ := a
 obtain ⟨hx, hy⟩ := hs
 cases b with
 | true => rw [NN x y]; exact Gives.same (PZ x y) (qX rfl rfl KV).symm
 | false => rw [Nl x y]; exact Gives.same (PN x y hx hy) (qX rfl rfl (K5 _ _)).symm
def Dv : Entry := qA 18 I4.x (fun a => [(some (sml1 a), .ag (pc1 (in1 a)))])
theorem wg : Dv.OK prog := qj (fun args w => Go.Proofs.enters_of (P := prog) func18 (by kernel_rfl) rfl args w) (fun a => sZ (fun h => ZW a h))
def O6 : Entry := wL 73 [(none, .ag [.c (.int .u64 18446744069414584321), .c (.int .u64 6034159408538082302), .c (.int .u64 3691218898639771653), .c (.int .u64 8353516859464449352)])]
theorem Em : O6.OK prog := ud (fun args w => Go.Proofs.enters_of (P := prog) func73 (by kernel_rfl) rfl args w)
 (only (qa (P := prog) (env := []) trivial func73 0 o0 (by kernel_rfl) tt0))
def NU (a : A1) (hs : sml1 a) (h : may1 a) := PLift.up (ai R4 (ai (show sml1 a from hs) (ai (show sml1 a /\ may1 a from ⟨hs, h⟩) tt0)))
theorem M8 (a : A1) (hs : sml1 a) (h : may1 a) (g : AZ a) : Gives prog 51 [.t (.ag [.n 6 a.1, .n 6 a.2.1, .c (.bool a.2.2)])] (.v (.bool true)) :=
 qa (P := prog) (env := [AB, Dv, O6, Ci, wo]) ⟨uo, wg, Em, yA, sC, tt0⟩ func51 0 (oL [(3, wO 0), (10, wO 0)]) (by kernel_rfl) (ai (show (man1 (in1 a) Rr 64).2.2 = 0 from g)
   (NU a hs h).down)
theorem N1 (a : A1) (hs : sml1 a) (h : may1 a) (g : ¬ AZ a) : Gives prog 51 [.t (.ag [.n 6 a.1, .n 6 a.2.1, .c (.bool a.2.2)])] (.v (.bool false)) :=
 qa (P := prog) (env := [AB, Dv, O6, Ci, wo]) ⟨uo, wg, Em, yA, sC, tt0⟩ func51 0 (oL [(3, wO 0), (10, wO 1)]) (by kernel_rfl) (ai (show ¬ (man1 (in1 a) Rr 64).2.2 = 0 from g)
   (NU a hs h).down)
theorem Pc (a : A1) (hs : sml1 a) (h : ¬ may1 a) : Gives prog 51 [.t (.ag [.n 6 a.1, .n 6 a.2.1, .c (.bool a.2.2)])] (.v (.bool false)) :=
 qa (P := prog) (env := [AB, Dv, O6, Ci, wo]) ⟨uo, wg, Em, yA, sC, tt0⟩ func51 0 (oL [(3, wO 1)]) (by kernel_rfl) (ai (show sml1 a /\ ¬ may1 a from ⟨hs, h⟩) tt0)
def R7 : Entry := qA 51 I4.x (fun a => [(some (sml1 a /\ may1 a /\ AZ a), .v (.bool true)), (some (sml1 a /\ may1 a /\ ¬ AZ a), .v (.bool false)), (some (sml1 a /\ ¬ may1 a), .v (.bool false))])
theorem MO : R7.OK prog := qj (fun args w => Go.Proofs.enters_of (P := prog) func51 (by kernel_rfl) rfl args w) (fun a c r hm hc => by
 simp only [List.mem_cons, pi0, List.not_mem_nil, or_false] at hm
 rcases hm with ⟨rfl, rfl⟩ | ⟨rfl, rfl⟩ | ⟨rfl, rfl⟩
 ·exact M8 a hc.1 hc.2.1 hc.2.2
 ·exact N1 a hc.1 hc.2.1 hc.2.2
 ·exact Pc a hc.1 hc.2)
end Go.Proofs.YtfbkefgoblcmpaaGreat
set_option linter.unusedSimpArgs false
set_option linter.unusedVariables false
namespace Go.Proofs.YtfbkefgoblcmpaaGreat
open Go.Ev Go.RowKit
open Tryz
end Go.Proofs.YtfbkefgoblcmpaaGreat
set_option linter.unusedSimpArgs false
set_option linter.unusedVariables false
namespace Go.Proofs.YtfbkefgoblcmpaaGreat
open Go.Ev Go.RowKit
open Tryz
end Go.Proofs.YtfbkefgoblcmpaaGreat
set_option linter.unusedSimpArgs false
set_option linter.unusedVariables false
namespace Go.Proofs.YtfbkefgoblcmpaaGreat
open Go.Ev Go.RowKit
open Tryz
end Go.Proofs.YtfbkefgoblcmpaaGreat
set_option linter.unusedSimpArgs false
set_option linter.unusedVariables false
namespace Go.Proofs.YtfbkefgoblcmpaaGreat
open Go.Ev Go.RowKit
open Tryz
theorem Hp : flat [.c (.int .u64 0), .c (.int .u64 0), .c (.int .u64 0), .c (.int .u64 0), .c (.int .u64 0), .c (.int .u64 0), .c (.int .u64 0), .c (.int .u64 0), .c (.int .u64 0), .c (.int .u64 0), .c (.int .u64 0), .c (.int .u64 0), .c (.bool true)] = flat [.n 6 0, .n 6 0, .c (.bool true)] := by kernel_rfl
theorem KE : flat [.c (.int .u64 18103045581585958587), .c (.int .u64 7806400890582735599), .c (.int .u64 11623291730934869080), .c (.int .u64 14080658508445169925), .c (.int .u64 2780237799254240271), .c (.int .u64 1725392847304644500), .c (.int .u64 912580534683953121), .c (.int .u64 15005087156090211044), .c (.int .u64 61670280795567085), .c (.int .u64 18227722000993880822), .c (.int .u64 11573741888802228964), .c (.int .u64 627113611842199793), .c (.bool false)] = flat [.n 6 g1x, .n 6 g1y, .c (.bool false)] := by kernel_rfl
def Sw : Entry := wL 7 [(none, .ag [.n 6 g1x, .n 6 g1y, .c (.bool false)])]
theorem Gk : Sw.OK prog := ud (fun args w => Go.Proofs.enters_of (P := prog) func7 (by kernel_rfl) rfl args w)
 (only (Gives.same (qa (P := prog) (env := []) trivial func7 0 o0 (r := .ag [.c (.int .u64 18103045581585958587), .c (.int .u64 7806400890582735599), .c (.int .u64 11623291730934869080), .c (.int .u64 14080658508445169925), .c (.int .u64 2780237799254240271), .c (.int .u64 1725392847304644500), .c (.int .u64 912580534683953121), .c (.int .u64 15005087156090211044), .c (.int .u64 61670280795567085), .c (.int .u64 18227722000993880822), .c (.int .u64 11573741888802228964), .c (.int .u64 627113611842199793), .c (.bool false)]) (by kernel_rfl) tt0) (qX rfl rfl KE).symm))
theorem Ld : flat [.c (.int .u64 15312334153293348280), .c (.int .u64 841050694974028783), .c (.int .u64 12993178926126977399), .c (.int .u64 14331714969349929730), .c (.int .u64 2740446039084699729), .c (.int .u64 165123225776229009), .c (.int .u64 16549740192668593022), .c (.int .u64 3696594454104530263), .c (.int .u64 13103893525273989193), .c (.int .u64 6443473286224459290), .c (.int .u64 9055845637167730533), .c (.int .u64 1432192374203850592), .c (.int .u64 16254428414758889473), .c (.int .u64 10536956157198377609), .c (.int .u64 7873024875724591404), .c (.int .u64 12537348094477325223), .c (.int .u64 10144865889576432922), .c (.int .u64 929383263523139089), .c (.int .u64 12297368366147926462), .c (.int .u64 4555124010822409633), .c (.int .u64 2771000935339432363), .c (.int .u64 14645187562128761775), .c (.int .u64 3651525051980876697), .c (.int .u64 434250606344352972), .c (.bool false)] = flat [.n 6 xh, .n 6 xg, .n 6 wV, .n 6 wA, .c (.bool false)] := by kernel_rfl
def RJ : Entry := wL 5 [(none, .ag [.n 6 xh, .n 6 xg, .n 6 wV, .n 6 wA, .c (.bool false)])]
theorem GH : RJ.OK prog := ud (fun args w => Go.Proofs.enters_of (P := prog) func5 (by kernel_rfl) rfl args w)
 (only (Gives.same (qa (P := prog) (env := []) trivial func5 0 o0 (r := .ag [.c (.int .u64 15312334153293348280), .c (.int .u64 841050694974028783), .c (.int .u64 12993178926126977399), .c (.int .u64 14331714969349929730), .c (.int .u64 2740446039084699729), .c (.int .u64 165123225776229009), .c (.int .u64 16549740192668593022), .c (.int .u64 3696594454104530263), .c (.int .u64 13103893525273989193), .c (.int .u64 6443473286224459290), .c (.int .u64 9055845637167730533), .c (.int .u64 1432192374203850592), .c (.int .u64 16254428414758889473), .c (.int .u64 10536956157198377609), .c (.int .u64 7873024875724591404), .c (.int .u64 12537348094477325223), .c (.int .u64 10144865889576432922), .c (.int .u64 929383263523139089), .c (.int .u64 12297368366147926462), .c (.int .u64 4555124010822409633), .c (.int .u64 2771000935339432363), .c (.int .u64 14645187562128761775), .c (.int .u64 3651525051980876697), .c (.int .u64 434250606344352972), .c (.bool false)]) (by kernel_rfl) tt0) (qX rfl rfl Ld).symm))
theorem Vp : sml1 (g1x, g1y, false) := by unfold sml1 small; decide +kernel
theorem UW : may1 (g1x, g1y, false) := by
 show g1x < Pp /\ g1y < Pp /\ ofP g1y * ofP g1y = C0 (ofP g1x)
 decide +kernel
theorem VB : sml2 ((xh, xg), (wV, wA), false) := by unfold sml2 qP small; decide +kernel
theorem VP : may2 ((xh, xg), (wV, wA), false) := by
 show (xh < Pp /\ xg < Pp) /\ (wV < Pp /\ wA < Pp) /\ mul2 (of2 (wV, wA)) (of2 (wV, wA)) = Ef (of2 (xh, xg))
 decide +kernel
end Go.Proofs.YtfbkefgoblcmpaaGreat
