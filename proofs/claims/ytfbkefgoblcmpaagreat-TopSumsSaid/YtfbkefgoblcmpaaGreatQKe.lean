/- Pruned: Ke. -/
import Derived.Test.YtfbkefgoblcmpaaGreatQGc
import Derived.Test.YtfbkefgoblcmpaaGreatQGd
import Derived.Test.YtfbkefgoblcmpaaGreatQKa
import Derived.Test.YtfbkefgoblcmpaaGreatQIa
import Derived.Test.YtfbkefgoblcmpaaGreatQKd
import Derived.Test.YtfbkefgoblcmpaaGreatQKc
import Derived.Test.YtfbkefgoblcmpaaGreatQHb
set_option linter.unusedSimpArgs false
set_option linter.unusedVariables false
namespace Go.Proofs.YtfbkefgoblcmpaaGreat
open Go.Ev Go.RowKit
open Tryz
def yV (P : Program) (f : FuncId) (args : List XV) (r : AV) : Prop := (∀ vs w, (callFunc f vs).run P w = .ok (.enter f vs) w) /\ Gives P f args r
def eAt (f : FuncId) (l : List (List XV × AV)) : Entry := ⟨f, fun _ a => l.map fun q => (some (a = q.1), q.2)⟩
theorem SH {P : Program} {f : FuncId} {l : List (List XV × AV)} (h : ∀ q ∈ l, yV P f q.1 q.2) : (eAt f l).OK P := by
 intro hi args c r hm hc
 simp only [eAt, List.mem_map, pi0] at hm
 obtain ⟨q, hq, rfl, rfl⟩ := hm
 simp only [Option.getD_some] at hc
 subst hc
 obtain ⟨he, v, hv, hx⟩ := h q hq
 exact ⟨v, hv, fun w vs hr => .inr ⟨he _ _, hx w vs hr⟩⟩
theorem Ja {P : Program} {f : FuncId} {a : List XV} {r : AV} (h : yV P f a r) : (eAt f [(a, r)]).OK P := SH (fun q hq => by rw [List.mem_singleton] at hq; subst hq; exact h)
def Es (m : Nat) : LState := { n := 35, sl := [(2, .p 1 0), (3, .p 2 0), (4, .v (.bool false)), (5, .p 4 0)] ++ (match Nat.testBit m 0 with | true => [(12, .ag [.c (.int .u64 0), .c (.int .u64 0), .c (.int .u64 0), .c (.int .u64 0), .c (.int .u64 0), .c (.int .u64 0)])] | false => []) ++ (match Nat.testBit m 1 with | true => [(13, .ag [.c (.int .u64 0), .c (.int .u64 0), .c (.int .u64 0), .c (.int .u64 0), .c (.int .u64 0), .c (.int .u64 0)])] | false => []), hp := [(1, .own [.c (.int .u64 0), .c (.int .u64 0), .c (.int .u64 0), .c (.int .u64 0), .c (.int .u64 0), .c (.int .u64 0)] 51), (2, .own [.c (.int .u64 0), .c (.int .u64 0), .c (.int .u64 0), .c (.int .u64 0), .c (.int .u64 0), .c (.int .u64 0)] 51), (4, .own [.c (.int .u64 0), .c (.int .u64 0), .c (.int .u64 0), .c (.int .u64 0), .c (.int .u64 0), .c (.int .u64 0)] 51)] }
def Xr : List (Nat × Nat) := [(5, 0), (4, 1), (4, 2), (3, 3), (3, 5), (2, 7), (1, 15), (0, 31)]
theorem Iq : Sound prog 0 false (Cp f42 0) (Es 0).aa .normal (Es 31).aa :=
 r8 (P := prog) (X := qE _) (env := []) trivial (tD (P := prog) (X := qE _) (env := []) (os := oL []) trivial 0) (os := oL []) (fb := 0) (k := 900) (S := Es ) (kk := fun _ _ => 1000) (tau := fun _ _ => []) (Ms := Xr) (full := 31) (by kernel_rfl)
  (have hR : ∀ m, some (Es m) = some (Es m) := fun _ => rfl; (ai (ai (ai trivial (hR 1)) (ai (ai trivial (hR 2)) tt0)) (ai (ai (ai trivial (hR 3)) (ai (ai trivial (hR 5)) tt0)) (ai (ai (ai trivial (hR 3)) tt0) (ai (ai (ai trivial (hR 7)) tt0) (ai (ai (ai trivial (hR 7)) tt0) (ai (ai (ai trivial (hR 15)) tt0) (ai (ai (ai trivial (hR 31)) tt0) (ai trivial tt0)))))))))
theorem Lu (p : Pt1) (hz : p.2.2 = 0) : yV prog 42 [.t (.ag (pc1 p))] (.tp [.ag [.c (.int .u64 0), .c (.int .u64 0), .c (.int .u64 0), .c (.int .u64 0), .c (.int .u64 0), .c (.int .u64 0)], .ag [.c (.int .u64 0), .c (.int .u64 0), .c (.int .u64 0), .c (.int .u64 0), .c (.int .u64 0), .c (.int .u64 0)], .v (.bool false)]) :=
 ⟨fun vs w => Go.Proofs.enters_of (P := prog) func42 (by kernel_rfl) rfl vs w, qb (P := prog) (X := qE _) (env := [wo, Js, rf]) ⟨sC, BA, qB, tt0⟩ func42 0 (oL [(8, wO 0), (9, lpO { kd := 5, I := Es 0, ex := .normal, E := Es 31, fr := 14 })]) (by kernel_rfl) ⟨_, rfl⟩ (ai (show some (Es 0) = some (Es 0) from rfl) (ai Iq (ai (show p.2.2 = 0 from hz) tt0)))⟩
theorem Mj (p : Pt1) (hz : p.2.2 ≠ 0) : yV prog 42 [.t (.ag (pc1 p))] (.tp [.ag [.m (axE p)], .ag [.m (ayE p)], .v (.bool true)]) :=
 ⟨fun vs w => Go.Proofs.enters_of (P := prog) func42 (by kernel_rfl) rfl vs w, qb (P := prog) (X := qE _) (env := [wo, Js, rf]) ⟨sC, BA, qB, tt0⟩ func42 0 (oL [(8, wO 1)]) (by kernel_rfl) ⟨_, rfl⟩ (ai (show p.2.2 ≠ 0 from hz) tt0)⟩
theorem NB (p : Pt1) (hz : p.2.2 = 0) : yV prog 17 [.t (.ag (pc1 p))] (.ag [.n 6 0, .n 6 0, .c (.bool true)]) :=
 ⟨fun vs w => Go.Proofs.enters_of (P := prog) func17 (by kernel_rfl) rfl vs w, Go.Ev.Gives.same (qb (P := prog) (X := qE _) (env := [eAt 42 [([.t (.ag (pc1 p))], .tp [.ag [.c (.int .u64 0), .c (.int .u64 0), .c (.int .u64 0), .c (.int .u64 0), .c (.int .u64 0), .c (.int .u64 0)], .ag [.c (.int .u64 0), .c (.int .u64 0), .c (.int .u64 0), .c (.int .u64 0), .c (.int .u64 0), .c (.int .u64 0)], .v (.bool false)])], yQ]) ⟨Ja (Lu p hz), tG, tt0⟩ func17 0 (oL []) (r := .ag [.c (.int .u64 0), .c (.int .u64 0), .c (.int .u64 0), .c (.int .u64 0), .c (.int .u64 0), .c (.int .u64 0), .c (.int .u64 0), .c (.int .u64 0), .c (.int .u64 0), .c (.int .u64 0), .c (.int .u64 0), .c (.int .u64 0), .c (.bool true)]) (by kernel_rfl) ⟨_, rfl⟩ (ai (show ([.t (.ag (pc1 p))] : List XV) = [.t (.ag (pc1 p))] from rfl) tt0)) (qX rfl rfl Hp).symm⟩
theorem MF (p : Pt1) (hz : p.2.2 ≠ 0) : yV prog 17 [.t (.ag (pc1 p))] (.ag [.q (axE p), .q (ayE p), .c (.bool false)]) :=
 ⟨fun vs w => Go.Proofs.enters_of (P := prog) func17 (by kernel_rfl) rfl vs w, qb (P := prog) (X := qE _) (env := [eAt 42 [([.t (.ag (pc1 p))], .tp [.ag [.m (axE p)], .ag [.m (ayE p)], .v (.bool true)])], yQ]) ⟨Ja (Mj p hz), tG, tt0⟩ func17 0 (oL []) (by kernel_rfl) ⟨_, rfl⟩ (ai (show ([.t (.ag (pc1 p))] : List XV) = [.t (.ag (pc1 p))] from rfl) tt0)⟩
theorem Qa {p : Pt1} {x y : Fin Pp} (h : afJ p = some (x, y)) : yV prog 17 [.t (.ag (pc1 p))] (.ag [.q x, .q y, .c (.bool false)]) := by
 have hz : p.2.2 ≠ 0 := fun e => by rw [sP e] at h; cases h
 have h2 := MF p hz
 rw [S6 hz] at h
 obtain ⟨rfl, rfl⟩ : axE p = x /\ ayE p = y := by simpa using h
 exact h2
end Go.Proofs.YtfbkefgoblcmpaaGreat
set_option linter.unusedSimpArgs false
set_option linter.unusedVariables false
namespace Go.Proofs.YtfbkefgoblcmpaaGreat
open Go.Ev Go.RowKit
open Tryz
def pX1 : PtE -> Fin Pp
 | none => 0
 | some p => p.1
def pY1 : PtE -> Fin Pp
 | none => 0
 | some p => p.2
def pI1 : PtE -> Bool
 | none => true
 | some _ => false
def pX2 : qn -> F2
 | none => (0, 0)
 | some p => p.1
def pY2 : qn -> F2
 | none => (0, 0)
 | some p => p.2
def pI2 : qn -> Bool
 | none => true
 | some _ => false
theorem y7 {P : Program} {f : FuncId} {args : List XV} {r r' : AV} (h : Tells P f args r) (e : r'.val? = r.val?) : Tells P f args r' := by
 obtain ⟨v, hv, h1⟩ := h
 exact ⟨v, e.trans hv, h1⟩
theorem yZ (p : Pt1) (a : PtE) (h : afJ p = a) : Tells prog 17 [.t (.ag (pc1 p))] (.ag [.q (pX1 a), .q (pY1 a), .c (.bool (pI1 a))]) := by
 match a, h with
 | none, h =>
  have h2 := NB p (GW h)
  exact y7 (qi h2.1 h2.2) (qX rfl rfl (by kernel_rfl))
 | some (x, y), h =>
  have h2 := Qa h
  exact qi h2.1 h2.2
def agS (m : Nat) : LState := { n := 35, sl := [(2, .p 1 0), (3, .p 2 0), (4, .v (.bool false)), (5, .p 4 0)] ++ (match Nat.testBit m 0 with | true => [(12, .ag (List.replicate 12 (.c (.int .u64 0))))] | false => []) ++ (match Nat.testBit m 1 with | true => [(13, .ag (List.replicate 12 (.c (.int .u64 0))))] | false => []), hp := [(1, .own (List.replicate 12 (.c (.int .u64 0))) 53), (2, .own (List.replicate 12 (.c (.int .u64 0))) 53), (4, .own (List.replicate 12 (.c (.int .u64 0))) 53)] }
def ZT : List (Nat × Nat) := [(5, 0), (4, 1), (4, 2), (3, 3), (3, 5), (2, 7), (1, 15), (0, 31)]
theorem KC : Sound prog 0 false (Cp f34 0) (agS 0).aa .normal (agS 31).aa :=
 r8 (P := prog) (X := qE _) (env := []) trivial (tD (P := prog) (X := qE _) (env := []) (os := oL []) trivial 0) (os := oL []) (fb := 0) (k := 900) (S := agS ) (kk := fun _ _ => 1000) (tau := fun _ _ => []) (Ms := ZT) (full := 31) (by kernel_rfl)
  (have hR : ∀ m, some (agS m) = some (agS m) := fun _ => rfl; (ai (ai (ai trivial (hR 1)) (ai (ai trivial (hR 2)) tt0)) (ai (ai (ai trivial (hR 3)) (ai (ai trivial (hR 5)) tt0)) (ai (ai (ai trivial (hR 3)) tt0) (ai (ai (ai trivial (hR 7)) tt0) (ai (ai (ai trivial (hR 7)) tt0) (ai (ai (ai trivial (hR 15)) tt0) (ai (ai (ai trivial (hR 31)) tt0) (ai trivial tt0)))))))))
theorem Ml (p : Pt2) (hz : p.2.2 = ((0, 0) : F2)) : Tells prog 34 [.t (.ag (pc2 p))] (.tp [.ag (List.replicate 12 (.c (.int .u64 0))), .ag (List.replicate 12 (.c (.int .u64 0))), .v (.bool false)]) :=
 qi (fun vs w => Go.Proofs.enters_of (P := prog) func34 (by kernel_rfl) rfl vs w) (qb (P := prog) (X := qE _) (env := [ws]) ⟨sA, tt0⟩ func34 0 (oL [(8, wO 0), (9, lpO { kd := 5, I := agS 0, ex := .normal, E := agS 31, fr := 14 })]) (by kernel_rfl) ⟨_, rfl⟩ (ai (show some (agS 0) = some (agS 0) from rfl) (ai KC (ai (show p.2.2 = ((0, 0) : F2) from hz) tt0))))
theorem TY (p : Pt2) (hz : p.2.2 ≠ ((0, 0) : F2)) (i ii x t y : F2) (hI : Tells prog 97 [.t (.ag (m2 p.2.2))] (.ag (m2 i))) (hT : ∀ z ∈ ([([.t (.ag (m2 i)), .t (.ag (m2 i))], .ag (m2 ii)), ([.t (.ag (m2 p.1)), .t (.ag (m2 ii))], .ag (m2 x)), ([.t (.ag (m2 p.2.1)), .t (.ag (m2 ii))], .ag (m2 t)), ([.t (.ag (m2 t)), .t (.ag (m2 i))], .ag (m2 y))] : List (List XV × AV)), Tells prog 65 z.1 z.2) : Tells prog 34 [.t (.ag (pc2 p))] (.tp [.ag (m2 x), .ag (m2 y), .v (.bool true)]) :=
 qi (fun vs w => Go.Proofs.enters_of (P := prog) func34 (by kernel_rfl) rfl vs w) (qb (P := prog) (X := qE _) (env := [ws, eTo 97 [([.t (.ag (m2 p.2.2))], .ag (m2 i))], eTo 65 [([.t (.ag (m2 i)), .t (.ag (m2 i))], .ag (m2 ii)), ([.t (.ag (m2 p.1)), .t (.ag (m2 ii))], .ag (m2 x)), ([.t (.ag (m2 p.2.1)), .t (.ag (m2 ii))], .ag (m2 t)), ([.t (.ag (m2 t)), .t (.ag (m2 i))], .ag (m2 y))]]) ⟨sA, qf (qe hI qw), qf hT, tt0⟩ func34 0 (oL [(8, wO 1), (12, wO 0), (18, wO 0), (25, wO 1), (30, wO 2), (33, wO 3)]) (by kernel_rfl) ⟨_, rfl⟩ (ai (show ([.t (.ag (m2 t)), .t (.ag (m2 i))] : List XV) = [.t (.ag (m2 t)), .t (.ag (m2 i))] from rfl) (ai (show ([.t (.ag (m2 p.2.1)), .t (.ag (m2 ii))] : List XV) = [.t (.ag (m2 p.2.1)), .t (.ag (m2 ii))] from rfl) (ai (show ([.t (.ag (m2 p.1)), .t (.ag (m2 ii))] : List XV) = [.t (.ag (m2 p.1)), .t (.ag (m2 ii))] from rfl) (ai (show ([.t (.ag (m2 i)), .t (.ag (m2 i))] : List XV) = [.t (.ag (m2 i)), .t (.ag (m2 i))] from rfl) (ai (show ([.t (.ag (m2 p.2.2))] : List XV) = [.t (.ag (m2 p.2.2))] from rfl) (ai (show p.2.2 ≠ ((0, 0) : F2) from hz) tt0)))))))
def axQ (p : Pt2) : F2 := mul2 p.1 (mul2 (inv2 p.2.2) (inv2 p.2.2))
def ayQ (p : Pt2) : F2 := mul2 (mul2 p.2.1 (mul2 (inv2 p.2.2) (inv2 p.2.2))) (inv2 p.2.2)
theorem Vf (a : F2) : Tells prog 97 [.t (.ag (m2 a))] (.ag (m2 (inv2 a))) := qT F0 (by kernel_rfl)
theorem Ew (a b : F2) : Tells prog 65 [.t (.ag (m2 a)), .t (.ag (m2 b))] (.ag (m2 (mul2 a b))) := qT qG (by kernel_rfl)
theorem M5 (p : Pt2) (hz : p.2.2 ≠ ((0, 0) : F2)) : Tells prog 34 [.t (.ag (pc2 p))] (.tp [.ag (m2 (axQ p)), .ag (m2 (ayQ p)), .v (.bool true)]) :=
 TY p hz _ _ _ _ _ (Vf _) (qe (Ew _ _) (qe (Ew _ _) (qe (Ew _ _) (qe (Ew _ _) qw))))
theorem Mb (p : Pt2) (h : Tells prog 34 [.t (.ag (pc2 p))] (.tp [.ag (List.replicate 12 (.c (.int .u64 0))), .ag (List.replicate 12 (.c (.int .u64 0))), .v (.bool false)])) : Tells prog 13 [.t (.ag (pc2 p))] (.ag [.q 0, .q 0, .q 0, .q 0, .c (.bool true)]) :=
 qi (fun vs w => Go.Proofs.enters_of (P := prog) func13 (by kernel_rfl) rfl vs w) (Go.Ev.Gives.same (qb (P := prog) (X := qE _) (env := [eTo 34 [([.t (.ag (pc2 p))], .tp [.ag (List.replicate 12 (.c (.int .u64 0))), .ag (List.replicate 12 (.c (.int .u64 0))), .v (.bool false)])]]) ⟨qf (qe h qw), tt0⟩ func13 0 (oL []) (r := .ag (List.replicate 24 (.c (.int .u64 0)) ++ [.c (.bool true)])) (by kernel_rfl) ⟨_, rfl⟩ (ai (show ([.t (.ag (pc2 p))] : List XV) = [.t (.ag (pc2 p))] from rfl) tt0)) (qX rfl rfl (by kernel_rfl)))
theorem Nw (p : Pt2) (x y : F2) (h : Tells prog 34 [.t (.ag (pc2 p))] (.tp [.ag (m2 x), .ag (m2 y), .v (.bool true)])) : Tells prog 13 [.t (.ag (pc2 p))] (.ag [.q x.1, .q x.2, .q y.1, .q y.2, .c (.bool false)]) :=
 qi (fun vs w => Go.Proofs.enters_of (P := prog) func13 (by kernel_rfl) rfl vs w) (qb (P := prog) (X := qE _) (env := [eTo 34 [([.t (.ag (pc2 p))], .tp [.ag (m2 x), .ag (m2 y), .v (.bool true)])], AN]) ⟨qf (qe h qw), uW, tt0⟩ func13 0 (oL []) (by kernel_rfl) ⟨_, rfl⟩ (ai (show ([.t (.ag (pc2 p))] : List XV) = [.t (.ag (pc2 p))] from rfl) tt0))
theorem Q7 {p : Pt2} (h : p.2.2 ≠ ((0, 0) : F2)) : afJq p = some (axQ p, ayQ p) := by
 have h' : (p.2.2 : G2) ≠ 0 := h
 unfold afJq
 rw [if_neg h']
 have e : ∀ Y i : G2, Y * (i * i * i) = Y * (i * i) * i := fun Y i => by grobner
 rw [e]
 rfl
theorem Um (p : Pt2) (a : qn) (h : afJq p = a) : Tells prog 13 [.t (.ag (pc2 p))] (.ag [.q (pX2 a).1, .q (pX2 a).2, .q (pY2 a).1, .q (pY2 a).2, .c (.bool (pI2 a))]) := by
 match a, h with
 | none, h => exact Mb p (Ml p (Db h))
 | some (x, y), h =>
  have hz : p.2.2 ≠ ((0, 0) : F2) := fun e => by rw [si e] at h; cases h
  rw [Q7 hz] at h
  obtain ⟨rfl, rfl⟩ : axQ p = x /\ ayQ p = y := by simpa using h
  exact Nw p _ _ (M5 p hz)
end Go.Proofs.YtfbkefgoblcmpaaGreat
set_option linter.unusedSimpArgs false
set_option linter.unusedVariables false
namespace Go.Proofs.YtfbkefgoblcmpaaGreat
open Go.Ev Go.RowKit
open Tryz
theorem VO (x y : Fin Pp) (b : Bool) (hm : may1 (x.val, y.val, b)) (k : Nat) (hk : k < 115792089237316195423570985008687907853269984665640564039457584007913129639936) (q : Pt1) (hq : man1 (in1 (x.val, y.val, b)) k 64 = q) (u v : Fin Pp) (c : Bool) (h : Tells prog 17 [.t (.ag (pc1 q))] (.ag [.q u, .q v, .c (.bool c)])) : Tells prog 6 [.t (.ag [.q x, .q y, .c (.bool b)]), .t (.ag [.n 4 k])] (.tp [.ag [.q u, .q v, .c (.bool c)], vi0 0]) :=
 qi (fun vs w => Go.Proofs.enters_of (P := prog) func6 (by kernel_rfl) rfl vs w) (qb (P := prog) (X := qE _) (env := [AB, Dv, Ci, eTo 17 [([.t (.ag (pc1 q))], .ag [.q u, .q v, .c (.bool c)])]]) ⟨uo, wg, yA, qf (qe h qw), tt0⟩ func6 0 (oL []) (by kernel_rfl) ⟨_, rfl⟩ (ai (show ([.t (.ag (pc1 (man1 (in1 (x.val, y.val, b)) k 64)))] : List XV) = [.t (.ag (pc1 q))] from by rw [hq]) (ai (show k < 115792089237316195423570985008687907853269984665640564039457584007913129639936 from hk) (ai (show sml1 (x.val, y.val, b) from xR x y b) (ai (show sml1 (x.val, y.val, b) /\ may1 (x.val, y.val, b) from ⟨xR x y b, hm⟩) tt0)))))
theorem Ty (x y : Fin Pp) (b : Bool) (hm : may1 (x.val, y.val, b)) (k : Nat) (hk : k < 115792089237316195423570985008687907853269984665640564039457584007913129639936) (a : PtE) (ha : afJ (man1 (in1 (x.val, y.val, b)) k 64) = a) : Tells prog 6 [.t (.ag [.q x, .q y, .c (.bool b)]), .t (.ag [.n 4 k])] (.tp [.ag [.q (pX1 a), .q (pY1 a), .c (.bool (pI1 a))], vi0 0]) :=
 VO x y b hm k hk _ rfl _ _ _ (yZ _ a ha)
theorem U7 (x y : F2) (b : Bool) (hm : may2 ((x.1.val, x.2.val), (y.1.val, y.2.val), b)) (k : Nat) (hk : k < 115792089237316195423570985008687907853269984665640564039457584007913129639936) (q : Pt2) (hq : man2 (in2 ((x.1.val, x.2.val), (y.1.val, y.2.val), b)) k 64 = q) (u v : F2) (c : Bool) (h : Tells prog 13 [.t (.ag (pc2 q))] (.ag [.q u.1, .q u.2, .q v.1, .q v.2, .c (.bool c)])) : Tells prog 4 [.t (.ag [.q x.1, .q x.2, .q y.1, .q y.2, .c (.bool b)]), .t (.ag [.n 4 k])] (.tp [.ag [.q u.1, .q u.2, .q v.1, .q v.2, .c (.bool c)], vi0 0]) :=
 qi (fun vs w => Go.Proofs.enters_of (P := prog) func4 (by kernel_rfl) rfl vs w) (qb (P := prog) (X := qE _) (env := [CV, FK, CN, eTo 13 [([.t (.ag (pc2 q))], .ag [.q u.1, .q u.2, .q v.1, .q v.2, .c (.bool c)])]]) ⟨v8, yf, yq, qf (qe h qw), tt0⟩ func4 0 (oL []) (by kernel_rfl) ⟨_, rfl⟩ (ai (show ([.t (.ag (pc2 (man2 (in2 ((x.1.val, x.2.val), (y.1.val, y.2.val), b)) k 64)))] : List XV) = [.t (.ag (pc2 q))] from by rw [hq]) (ai (show k < 115792089237316195423570985008687907853269984665640564039457584007913129639936 from hk) (ai (show sml2 ((x.1.val, x.2.val), (y.1.val, y.2.val), b) from BC x y b) (ai (show sml2 ((x.1.val, x.2.val), (y.1.val, y.2.val), b) /\ may2 ((x.1.val, x.2.val), (y.1.val, y.2.val), b) from ⟨BC x y b, hm⟩) tt0)))))
theorem Mg (x y : F2) (b : Bool) (hm : may2 ((x.1.val, x.2.val), (y.1.val, y.2.val), b)) (k : Nat) (hk : k < 115792089237316195423570985008687907853269984665640564039457584007913129639936) (a : qn) (ha : afJq (man2 (in2 ((x.1.val, x.2.val), (y.1.val, y.2.val), b)) k 64) = a) : Tells prog 4 [.t (.ag [.q x.1, .q x.2, .q y.1, .q y.2, .c (.bool b)]), .t (.ag [.n 4 k])] (.tp [.ag [.q (pX2 a).1, .q (pX2 a).2, .q (pY2 a).1, .q (pY2 a).2, .c (.bool (pI2 a))], vi0 0]) :=
 U7 x y b hm k hk _ rfl _ _ _ (Um _ a ha)
theorem Vr (x y : Fin Pp) (b : Bool) (hm : may1 (x.val, y.val, b)) (q : Pt1) (hq : C1 (in1 (x.val, y.val, b)) = q) (u v : Fin Pp) (c : Bool) (h : Tells prog 17 [.t (.ag (pc1 q))] (.ag [.q u, .q v, .c (.bool c)])) : Tells prog 9 [.t (.ag [.q x, .q y, .c (.bool b)])] (.tp [.ag [.q u, .q v, .c (.bool c)], vi0 0]) :=
 qi (fun vs w => Go.Proofs.enters_of (P := prog) func9 (by kernel_rfl) rfl vs w) (qb (P := prog) (X := qE _) (env := [AB, Dv, LY, eTo 17 [([.t (.ag (pc1 q))], .ag [.q u, .q v, .c (.bool c)])]]) ⟨uo, wg, Di, qf (qe h qw), tt0⟩ func9 0 (oL []) (by kernel_rfl) ⟨_, rfl⟩ (ai (show ([.t (.ag (pc1 (C1 (in1 (x.val, y.val, b)))))] : List XV) = [.t (.ag (pc1 q))] from by rw [hq]) (ai (show sml1 (x.val, y.val, b) from xR x y b) (ai (show sml1 (x.val, y.val, b) /\ may1 (x.val, y.val, b) from ⟨xR x y b, hm⟩) tt0))))
theorem UY (x y : Fin Pp) (b : Bool) (hm : may1 (x.val, y.val, b)) (a : PtE) (ha : afJ (C1 (in1 (x.val, y.val, b))) = a) : Tells prog 9 [.t (.ag [.q x, .q y, .c (.bool b)])] (.tp [.ag [.q (pX1 a), .q (pY1 a), .c (.bool (pI1 a))], vi0 0]) :=
 Vr x y b hm _ rfl _ _ _ (yZ _ a ha)
theorem NH : Tells prog 7 [] (.ag [.q (ofP g1x), .q (ofP g1y), .c (.bool false)]) := y7 (r := .ag [.n 6 g1x, .n 6 g1y, .c (.bool false)]) (qT Gk (by kernel_rfl)) (qX rfl rfl (by kernel_rfl))
theorem CL : Tells prog 5 [] (.ag [.q (ofP xh), .q (ofP xg), .q (ofP wV), .q (ofP wA), .c (.bool false)]) := y7 (r := .ag [.n 6 xh, .n 6 xg, .n 6 wV, .n 6 wA, .c (.bool false)]) (qT GH (by kernel_rfl)) (qX rfl rfl (by kernel_rfl))
theorem s8 (x y : Fin Pp) (b : Bool) (hm : may1 (x.val, y.val, b)) : Tells prog 16 [.t (.ag [.q x, .q y, .c (.bool b)])] (.v (.bool true)) :=
 uo (fun _ => 0) _ (some (sml1 (x.val, y.val, b) /\ may1 (x.val, y.val, b))) (.v (.bool true)) (List.Mem.head _) ⟨xR x y b, hm⟩
theorem CM (x y : Fin Pp) (b : Bool) : Tells prog 18 [.t (.ag [.q x, .q y, .c (.bool b)])] (.ag (pc1 (in1 (x.val, y.val, b)))) := Fx wg (by kernel_rfl) (xR x y b)
theorem JF : ON (.inr 1) := by show 1 < 115792089237316195423570985008687907853269984665640564039457584007913129639936; decide
theorem IA : Tells prog 11 [] (.v (.bool true)) :=
 qi (fun vs w => Go.Proofs.enters_of (P := prog) func11 (by kernel_rfl) rfl vs w) (qb (P := prog) (X := qE _) (env := [N9, Sw, AB, RJ, CV]) ⟨Kq, Gk, uo, GH, v8, tt0⟩ func11 0 (oL [(5, wO 0)]) (by kernel_rfl) ⟨_, rfl⟩ (ai (show sml2 ((xh, xg), (wV, wA), false) /\ may2 ((xh, xg), (wV, wA), false) from ⟨VB, VP⟩) (ai (show sml1 (g1x, g1y, false) /\ may1 (g1x, g1y, false) from ⟨Vp, UW⟩) (ai (show flat [Ch.e (ofR 1 + ofR 1)] = flat [Ch.c (.int .u64 2), Ch.c (.int .u64 0), Ch.c (.int .u64 0), Ch.c (.int .u64 0)] from by kernel_rfl) (ai (show ON (.inr 1) /\ ON (.inr 1) from ⟨JF, JF⟩) tt0)))))
end Go.Proofs.YtfbkefgoblcmpaaGreat
