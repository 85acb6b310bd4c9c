/- Pruned: Gg. -/
import Derived.Test.YtokjhbmmdmeafaaGreatQGf
import Derived.Test.YtokjhbmmdmeafaaGreatQGc
import Derived.Test.YtokjhbmmdmeafaaGreatQGb
import Derived.Test.YtokjhbmmdmeafaaGreatQGa
set_option linter.unusedSimpArgs false
set_option linter.unusedVariables false
namespace Go.Proofs.YtokjhbmmdmeafaaGreat
open Go.Ev Go.RowKit
open Tryz
def Dr : Entry := xI 13 [(none, .v (.bool true))]
theorem Hw : Dr.OK prog := va (fun args w => Go.Proofs.enters_of (P := prog) func13 (by kernel_rfl) rfl args w) (only (pz (P := prog) (X := pC _) (env := [Tg]) ⟨OO, tt0⟩ func13 8 (oL [(32, { ch := 0, hi := fun _ => 0, ex := 2, cs := fun _ => [.y [67, 72, 87, 49]] }), (96, wT)]) (by kernel_rfl) ⟨_, rfl⟩ (And.intro (show true = true from rfl) (And.intro (show flat [.y [67, 72, 87, 49]] = (ofL [67, 72, 87, 49]).data.toList.map rI from V1 _) tt0))))
end Go.Proofs.YtokjhbmmdmeafaaGreat
set_option linter.unusedSimpArgs false
set_option linter.unusedVariables false
namespace Go.Proofs.YtokjhbmmdmeafaaGreat
open Go.Ev Go.RowKit
open Tryz
instance (a : A1) : Decidable (may1 a) := by unfold may1 is1; infer_instance
instance (a : A2) : Decidable (may2 a) := by unfold may2 is2; infer_instance
instance (a : A1) : Decidable (sA a) := by unfold sA; infer_instance
instance (a : A2) : Decidable (sB a) := by unfold sB; infer_instance
def mgW : LU0 := [67, 72, 87, 49]
def ptP (a : A1) : List Ch := [.n 6 a.1, .n 6 a.2.1, .c (.bool a.2.2)]
def ptC (a : A1) : List Value := flat (ptP a)
theorem Gq (a : A1) : (ptC a).length = 13 := by unfold ptC ptP; simp [flat, Ch.cells, sF]
def wE (ps : List A1) : List Value := ps.flatMap ptC
end Go.Proofs.YtokjhbmmdmeafaaGreat
set_option linter.unusedSimpArgs false
set_option linter.unusedVariables false
namespace Go.Proofs.YtokjhbmmdmeafaaGreat
open Go.Ev Go.RowKit
open Tryz
end Go.Proofs.YtokjhbmmdmeafaaGreat
set_option linter.unusedSimpArgs false
set_option linter.unusedVariables false
namespace Go.Proofs.YtokjhbmmdmeafaaGreat
open Go.Ev Go.RowKit
open Tryz
structure VT where
 l : Int
 p : Int
 q0 : A1
 q1 : A1
 q2 : A1
 q3 : A1
 q4 : A1
 s0 : A1
 s1 : A1
 s2 : A1
 b : A2
def VT.ch (v : VT) : List Ch := [ci0 v.l, ci0 v.p, .n 6 v.q0.1, .n 6 v.q0.2.1, .c (.bool v.q0.2.2), .n 6 v.q1.1, .n 6 v.q1.2.1, .c (.bool v.q1.2.2), .n 6 v.q2.1, .n 6 v.q2.2.1, .c (.bool v.q2.2.2), .n 6 v.q3.1, .n 6 v.q3.2.1, .c (.bool v.q3.2.2), .n 6 v.q4.1, .n 6 v.q4.2.1, .c (.bool v.q4.2.2), .n 6 v.s0.1, .n 6 v.s0.2.1, .c (.bool v.s0.2.2), .n 6 v.s1.1, .n 6 v.s1.2.1, .c (.bool v.s1.2.2), .n 6 v.s2.1, .n 6 v.s2.2.1, .c (.bool v.s2.2.2), .n 6 v.b.1.1, .n 6 v.b.1.2, .n 6 v.b.2.1.1, .n 6 v.b.2.1.2, .c (.bool v.b.2.2)]
def Yo (v : VT) : Prop := 0 <= v.l /\ v.l <= 255 /\ 0 <= v.p /\ v.p <= 255
instance (v : VT) : Decidable (Yo v) := by unfold Yo; infer_instance
end Go.Proofs.YtokjhbmmdmeafaaGreat
set_option linter.unusedSimpArgs false
set_option linter.unusedVariables false
namespace Go.Proofs.YtokjhbmmdmeafaaGreat
open Go.Ev Go.RowKit
open Tryz
def mgV : LU0 := [67, 72, 86, 49]
def mgP : LU0 := [67, 72, 80, 49]
structure PF where
 a0 : A1
 a1 : A1
 a2 : A1
 a3 : A1
 a4 : A1
 a5 : A1
 a6 : A1
 a7 : A1
 a8 : A1
 f0 : Nat
 f1 : Nat
 f2 : Nat
 f3 : Nat
 f4 : Nat
 f5 : Nat
def PF.ch (p : PF) : List Ch := [.n 6 p.a0.1, .n 6 p.a0.2.1, .c (.bool p.a0.2.2), .n 6 p.a1.1, .n 6 p.a1.2.1, .c (.bool p.a1.2.2), .n 6 p.a2.1, .n 6 p.a2.2.1, .c (.bool p.a2.2.2), .n 6 p.a3.1, .n 6 p.a3.2.1, .c (.bool p.a3.2.2), .n 6 p.a4.1, .n 6 p.a4.2.1, .c (.bool p.a4.2.2), .n 6 p.a5.1, .n 6 p.a5.2.1, .c (.bool p.a5.2.2), .n 6 p.a6.1, .n 6 p.a6.2.1, .c (.bool p.a6.2.2), .n 6 p.a7.1, .n 6 p.a7.2.1, .c (.bool p.a7.2.2), .n 6 p.a8.1, .n 6 p.a8.2.1, .c (.bool p.a8.2.2), .n 4 p.f0, .n 4 p.f1, .n 4 p.f2, .n 4 p.f3, .n 4 p.f4, .n 4 p.f5]
instance (ns : List Nat) : Decidable (Ax ns) := by unfold Ax; infer_instance
end Go.Proofs.YtokjhbmmdmeafaaGreat
