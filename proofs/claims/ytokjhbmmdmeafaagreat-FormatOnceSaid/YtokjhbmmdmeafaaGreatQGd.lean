/- Pruned: Gd. -/
import Derived.Test.YtokjhbmmdmeafaaGreatQGe
import Derived.Test.YtokjhbmmdmeafaaGreatQGc
import Derived.Test.YtokjhbmmdmeafaaGreatQGb
import Derived.Test.YtokjhbmmdmeafaaGreatQHa
set_option linter.unusedSimpArgs false
set_option linter.unusedVariables false
namespace Go.Proofs.YtokjhbmmdmeafaaGreat
open Go.Ev Go.RowKit
open Tryz
def c2 (l : LU0) (i : Nat) : Nat := match i with
 | 0 => deN 48 ((pJ l).take 48)
 | 1 => deN 48 (((pJ l).drop 48).take 48)
 | 2 => deN 48 ((((pJ l).drop 48).drop 48).take 48)
 | _ => deN 48 (((((pJ l).drop 48).drop 48).drop 48).take 48)
def sy2 (a : F2) (high : Bool) : F2 := match high with | true => r6 (rt2 a) | false => rt2 a
abbrev Eg : List Ch := [.c (.int .u64 0), .c (.int .u64 0), .c (.int .u64 0), .c (.int .u64 0), .c (.int .u64 0), .c (.int .u64 0), .c (.int .u64 0), .c (.int .u64 0), .c (.int .u64 0), .c (.int .u64 0), .c (.int .u64 0), .c (.int .u64 0), .c (.int .u64 0), .c (.int .u64 0), .c (.int .u64 0), .c (.int .u64 0), .c (.int .u64 0), .c (.int .u64 0), .c (.int .u64 0), .c (.int .u64 0), .c (.int .u64 0), .c (.int .u64 0), .c (.int .u64 0), .c (.int .u64 0), .c (.bool false)]
abbrev qp (l : LU0) : List XV := [.t (.v (.string (ofL l)))]
theorem qq {a : List XV} {r : AV} {b : Prop} (o : LO0) (hb : b) (h : fnA prog (qC _) [Ro, C0, AD, rM, sN, tl, K3, EB, zy, BE, DA] 2 (oL o) f33 a = some (r, b) := by kernel_rfl) (hv : ∃ v, r.val? = some v := by exact ⟨_, rfl⟩) : Gives prog 33 a r := pL (P := prog) (X := qC _) (env := [Ro, C0, AD, rM, sN, tl, K3, EB, zy, BE, DA]) ⟨TP, DN, tV, qM, qZ, qz, M2, zW, uL, xf, DD, tt0⟩ func33 2 (oL o) h hv hb
theorem Uc (l : LU0) (h : l.length ≠ 96 /\ l.length ≠ 192) : Gives prog 33 (qp l) (.tp [.ag Eg, vi0 3]) :=
 qq [(3, wO 0)] (ai (show l.length ≠ 96 /\ l.length ≠ 192 from h) tt0)
theorem RY (l : LU0) (h : (l.length = 96 /\ pO l ≠ 4 /\ pO l ≠ 5 /\ pO l ≠ 6) ∨ (l.length = 192 /\ pO l ≠ 0 /\ pO l ≠ 2)) : Gives prog 33 (qp l) (.tp [.ag Eg, vi0 32]) :=
 qq [(3, wO 1)] (ai (show (l.length = 96 /\ pO l ≠ 4 /\ pO l ≠ 5 /\ pO l ≠ 6) ∨ (l.length = 192 /\ pO l ≠ 0 /\ pO l ≠ 2) from h) tt0)
theorem QG (l : LU0) (h : ((l.length = 96 /\ pO l = 6) ∨ (l.length = 192 /\ pO l = 2)) /\ ¬ sP (pJ l)) : Gives prog 33 (qp l) (.tp [.ag Eg, vi0 33]) :=
 qq [(3, wO 2)] (ai (show ((l.length = 96 /\ pO l = 6) ∨ (l.length = 192 /\ pO l = 2)) /\ ¬ sP (pJ l) from h) tt0)
abbrev SO : AV := .tp [.ag [.c (.int .u64 0), .c (.int .u64 0), .c (.int .u64 0), .c (.int .u64 0), .c (.int .u64 0), .c (.int .u64 0), .c (.int .u64 0), .c (.int .u64 0), .c (.int .u64 0), .c (.int .u64 0), .c (.int .u64 0), .c (.int .u64 0), .c (.int .u64 0), .c (.int .u64 0), .c (.int .u64 0), .c (.int .u64 0), .c (.int .u64 0), .c (.int .u64 0), .c (.int .u64 0), .c (.int .u64 0), .c (.int .u64 0), .c (.int .u64 0), .c (.int .u64 0), .c (.int .u64 0), .c (.bool true)], vi0 0]
theorem WC (l : LU0) (h : (l.length = 96 /\ pO l = 6) /\ sP (pJ l)) : Gives prog 33 (qp l) SO :=
 qq [(3, wO 6)] (ai (show (l.length = 96 /\ pO l = 6) /\ sP (pJ l) from h) tt0)
theorem VW (l : LU0) (h : (l.length = 192 /\ pO l = 2) /\ sP (pJ l)) : Gives prog 33 (qp l) SO :=
 qq [(3, wO 7)] (ai (show (l.length = 192 /\ pO l = 2) /\ sP (pJ l) from h) tt0)
theorem Bs (l : LU0) (hL : l.length = 96) : (((ofL (((pJ l).drop 48).drop 48)).size : Nat) : Int) = ((0 : Nat) : Int) := by rw [show (ofL (((pJ l).drop 48).drop 48)).size = 0 from (show ((((pJ l).drop 48).drop 48)).length = 0 from by simp [pP, hL])]
theorem wS (l : LU0) (hL : l.length = 96) : (0 : Int) <= 48 /\ (48 : Int) <= (ofL ((pJ l).drop 48)).size := ⟨by decide, by rw [show (ofL ((pJ l).drop 48)).size = 48 from (show (((pJ l).drop 48)).length = 48 from by simp [pP, hL])]; decide⟩
theorem Lp (l : LU0) (hL : l.length = 96) (h1 : c2 l 1 < 4002409555221667393417789825735904156556882819939007885332058136124031650490837864442687629129015664037894272559787) : (((pJ l).drop 48).take 48).length = 48 /\ deN 48 (((pJ l).drop 48).take 48) < 4002409555221667393417789825735904156556882819939007885332058136124031650490837864442687629129015664037894272559787 := ⟨by simp [pP, hL], h1⟩
theorem LN (l : LU0) (hL : l.length = 96) : (((ofL ((pJ l).drop 48)).size : Nat) : Int) = ((48 : Nat) : Int) := by rw [show (ofL ((pJ l).drop 48)).size = 48 from (show (((pJ l).drop 48)).length = 48 from by simp [pP, hL])]
theorem Bv (l : LU0) (hL : l.length = 96) : (0 : Int) <= 48 /\ (48 : Int) <= (ofL (pJ l)).size := ⟨by decide, by rw [show (ofL (pJ l)).size = 96 from (show ((pJ l)).length = 96 from by simp [pP, hL])]; decide⟩
theorem W6 (l : LU0) (hL : l.length = 96) (h0 : c2 l 0 < 4002409555221667393417789825735904156556882819939007885332058136124031650490837864442687629129015664037894272559787) : ((pJ l).take 48).length = 48 /\ deN 48 ((pJ l).take 48) < 4002409555221667393417789825735904156556882819939007885332058136124031650490837864442687629129015664037894272559787 := ⟨by simp [pP, hL], h0⟩
theorem Mc (l : LU0) (hL : l.length = 96) : (((ofL (pJ l)).size : Nat) : Int) = ((96 : Nat) : Int) := by rw [show (ofL (pJ l)).size = 96 from (show ((pJ l)).length = 96 from by simp [pP, hL])]
theorem Xl (l : LU0) (hL : l.length = 96) (ht : pO l = 4) : l.length = 96 /\ pO l = 4 := ⟨hL, ht⟩
abbrev Aa (l : LU0) := ((ofP (deN 48 (((pJ l).drop 48).take 48)), ofP (deN 48 ((pJ l).take 48))) : F2)
abbrev wQ (l : LU0) := qV (pZ (pZ (Aa l) (Aa l)) (Aa l)) (ofP (4 % 18446744073709551616), ofP (4 % 18446744073709551616))
abbrev sA (l : LU0) : Prop := c2 l 1 < 4002409555221667393417789825735904156556882819939007885332058136124031650490837864442687629129015664037894272559787
abbrev rX (l : LU0) : Prop := c2 l 0 < 4002409555221667393417789825735904156556882819939007885332058136124031650490837864442687629129015664037894272559787
def vU : Ora := { ch := 1, hi := fun _ => 96 }
def sR : Ora := { ch := 1, hi := fun _ => 48 }
def si : Ora := { ch := 1, hi := fun _ => 0 }
def QP {l : LU0} (hL : l.length = 96) (ht : pO l = 4) (h0 : rX l) := PLift.up (ai (wS l hL) (ai (LN l hL) (ai (Bv l hL) (ai (W6 l hL h0) (ai (Bv l hL) (ai (Mc l hL) (ai (Xl l hL ht) tt0)))))))
def JT {l : LU0} (hL : l.length = 96) (ht : pO l = 4) (h0 : rX l) (h1 : sA l) := PLift.up (ai (Bs l hL) (ai (wS l hL) (ai (Lp l hL h1)
   (QP hL ht h0).down)))
abbrev Je : AV := .tp [.ag Eg, vi0 30]
def Ka : LO0 := [(3, wO 3), (29, vU), (36, rO 5 0), (37, wO 1), (45, rO 5 0), (57, sR), (64, rO 5 0), (65, wO 1), (73, rO 5 0), (85, si)]
theorem Sd (l : LU0) (hL : l.length = 96) (ht : pO l = 4) (h0 : rX l) (h1 : sA l) (hq : ¬ sq2 (wQ l)) : Gives prog 33 (qp l) Je :=
 qq (Ka ++ [(129, wO 1)]) (ai (show ¬ sq2 (wQ l) from hq)
   (JT hL ht h0 h1).down)
theorem Mm (l : LU0) (hq : sq2 (qV (pZ (pZ ((ofP (deN 48 (((pJ l).drop 48).take 48)), ofP (deN 48 ((pJ l).take 48))) : F2) ((ofP (deN 48 (((pJ l).drop 48).take 48)), ofP (deN 48 ((pJ l).take 48))) : F2)) ((ofP (deN 48 (((pJ l).drop 48).take 48)), ofP (deN 48 ((pJ l).take 48))) : F2)) (ofP (4 % 18446744073709551616), ofP (4 % 18446744073709551616)))) : sq2 (qV (pZ (pZ ((ofP (deN 48 (((pJ l).drop 48).take 48)), ofP (deN 48 ((pJ l).take 48))) : F2) ((ofP (deN 48 (((pJ l).drop 48).take 48)), ofP (deN 48 ((pJ l).take 48))) : F2)) ((ofP (deN 48 (((pJ l).drop 48).take 48)), ofP (deN 48 ((pJ l).take 48))) : F2)) (ofP (4 % 18446744073709551616), ofP (4 % 18446744073709551616))) := hq
abbrev sO (l : LU0) := (((Aa l).1.val, (Aa l).2.val), ((rt2 (wQ l)).1.val, (rt2 (wQ l)).2.val), false)
abbrev K1 : AV := .tp [.ag Eg, vi0 31]
theorem QY (l : LU0) (hL : l.length = 96) (ht : pO l = 4) (h0 : rX l) (h1 : sA l) (hq : sq2 (wQ l)) (hg : sml2 (sO l) /\ may2 (sO l) /\ ¬ q6 (sO l)) : Gives prog 33 (qp l) K1 :=
 qq (Ka ++ [(129, wO 0), (146, wO 0), (150, wO 1)]) (ai (show sml2 (sO l) /\ may2 (sO l) /\ ¬ q6 (sO l) from hg) (ai (show sml2 (sO l) /\ may2 (sO l) from ⟨hg.1, hg.2.1⟩) (ai (Mm l hq)
   (JT hL ht h0 h1).down)))
theorem MH (l : LU0) (hL : l.length = 96) (ht : pO l = 4) (h0 : rX l) (h1 : sA l) (hq : sq2 (wQ l)) (hg : sml2 (sO l) /\ may2 (sO l) /\ q6 (sO l)) : Gives prog 33 (qp l) (.tp [.ag [.q ((ofP (deN 48 (((pJ l).drop 48).take 48)), ofP (deN 48 ((pJ l).take 48))) : F2).1, .q ((ofP (deN 48 (((pJ l).drop 48).take 48)), ofP (deN 48 ((pJ l).take 48))) : F2).2, .q (rt2 (qV (pZ (pZ ((ofP (deN 48 (((pJ l).drop 48).take 48)), ofP (deN 48 ((pJ l).take 48))) : F2) ((ofP (deN 48 (((pJ l).drop 48).take 48)), ofP (deN 48 ((pJ l).take 48))) : F2)) ((ofP (deN 48 (((pJ l).drop 48).take 48)), ofP (deN 48 ((pJ l).take 48))) : F2)) (ofP (4 % 18446744073709551616), ofP (4 % 18446744073709551616)))).1, .q (rt2 (qV (pZ (pZ ((ofP (deN 48 (((pJ l).drop 48).take 48)), ofP (deN 48 ((pJ l).take 48))) : F2) ((ofP (deN 48 (((pJ l).drop 48).take 48)), ofP (deN 48 ((pJ l).take 48))) : F2)) ((ofP (deN 48 (((pJ l).drop 48).take 48)), ofP (deN 48 ((pJ l).take 48))) : F2)) (ofP (4 % 18446744073709551616), ofP (4 % 18446744073709551616)))).2, .c (.bool false)], vi0 0]) :=
 qq (Ka ++ [(129, wO 0), (146, wO 0), (150, wO 0)]) (ai (show sml2 (sO l) /\ may2 (sO l) /\ q6 (sO l) from hg) (ai (show sml2 (sO l) /\ may2 (sO l) from ⟨hg.1, hg.2.1⟩) (ai (Mm l hq)
   (JT hL ht h0 h1).down)))
theorem L4 (l : LU0) (hL : l.length = 96) (h1 : 4002409555221667393417789825735904156556882819939007885332058136124031650490837864442687629129015664037894272559787 <= c2 l 1) : (((pJ l).drop 48).take 48).length = 48 /\ 4002409555221667393417789825735904156556882819939007885332058136124031650490837864442687629129015664037894272559787 <= deN 48 (((pJ l).drop 48).take 48) := ⟨by simp [pP, hL], h1⟩
abbrev vr (l : LU0) : Prop := 4002409555221667393417789825735904156556882819939007885332058136124031650490837864442687629129015664037894272559787 <= c2 l 1
abbrev rJ : AV := .tp [.ag Eg, vi0 20]
theorem JP (l : LU0) (hL : l.length = 96) (ht : pO l = 4) (h0 : rX l) (h1 : vr l) : Gives prog 33 (qp l) rJ :=
 qq [(3, wO 3), (29, vU), (36, rO 5 0), (37, wO 1), (45, rO 5 0), (57, sR), (64, rO 5 0), (65, wO 2), (73, rO 5 0), (85, si)] (ai (Bs l hL) (ai (wS l hL) (ai (L4 l hL h1)
   (QP hL ht h0).down)))
theorem R5 (l : LU0) (hL : l.length = 96) (h0 : 4002409555221667393417789825735904156556882819939007885332058136124031650490837864442687629129015664037894272559787 <= c2 l 0) : ((pJ l).take 48).length = 48 /\ 4002409555221667393417789825735904156556882819939007885332058136124031650490837864442687629129015664037894272559787 <= deN 48 ((pJ l).take 48) := ⟨by simp [pP, hL], h0⟩
abbrev sQ (l : LU0) : Prop := 4002409555221667393417789825735904156556882819939007885332058136124031650490837864442687629129015664037894272559787 <= c2 l 0
def OQ {l : LU0} (hL : l.length = 96) (ht : pO l = 4) (h0 : sQ l) := PLift.up (ai (wS l hL) (ai (LN l hL) (ai (Bv l hL) (ai (R5 l hL h0) (ai (Bv l hL) (ai (Mc l hL) (ai (Xl l hL ht) tt0)))))))
def Q9 : LO0 := [(3, wO 3), (29, vU), (36, rO 5 0), (37, wO 2), (45, rO 5 0), (57, sR), (64, rO 5 0)]
theorem Kc (l : LU0) (hL : l.length = 96) (ht : pO l = 4) (h0 : sQ l) (h1 : sA l) : Gives prog 33 (qp l) rJ :=
 qq (Q9 ++ [(65, wO 1), (73, rO 5 0), (83, si)]) (ai (Bs l hL) (ai (wS l hL) (ai (Lp l hL h1)
   (OQ hL ht h0).down)))
theorem JE (l : LU0) (hL : l.length = 96) (ht : pO l = 4) (h0 : sQ l) (h1 : vr l) : Gives prog 33 (qp l) rJ :=
 qq (Q9 ++ [(65, wO 2), (73, rO 5 0), (83, si)]) (ai (Bs l hL) (ai (wS l hL) (ai (L4 l hL h1)
   (OQ hL ht h0).down)))
theorem Pw (l : LU0) (hL : l.length = 96) (ht : pO l = 5) : l.length = 96 /\ pO l = 5 := ⟨hL, ht⟩
def TM {l : LU0} (hL : l.length = 96) (ht : pO l = 5) (h0 : rX l) := PLift.up (ai (wS l hL) (ai (LN l hL) (ai (Bv l hL) (ai (W6 l hL h0) (ai (Bv l hL) (ai (Mc l hL) (ai (Pw l hL ht) tt0)))))))
def KD {l : LU0} (hL : l.length = 96) (ht : pO l = 5) (h0 : rX l) (h1 : sA l) := PLift.up (ai (Bs l hL) (ai (wS l hL) (ai (Lp l hL h1)
   (TM hL ht h0).down)))
def Lb : LO0 := [(3, wO 4), (29, vU), (36, rO 5 0), (37, wO 1), (45, rO 5 0), (57, sR), (64, rO 5 0), (65, wO 1), (73, rO 5 0), (85, si)]
theorem QT (l : LU0) (hL : l.length = 96) (ht : pO l = 5) (h0 : rX l) (h1 : sA l) (hq : ¬ sq2 (wQ l)) : Gives prog 33 (qp l) Je :=
 qq (Lb ++ [(129, wO 1)]) (ai (show ¬ sq2 (wQ l) from hq)
   (KD hL ht h0 h1).down)
abbrev uk (l : LU0) := (((Aa l).1.val, (Aa l).2.val), ((r6 (rt2 (wQ l))).1.val, (r6 (rt2 (wQ l))).2.val), false)
theorem Si (l : LU0) (hL : l.length = 96) (ht : pO l = 5) (h0 : rX l) (h1 : sA l) (hq : sq2 (wQ l)) (hg : sml2 (uk l) /\ may2 (uk l) /\ ¬ q6 (uk l)) : Gives prog 33 (qp l) K1 :=
 qq (Lb ++ [(129, wO 0), (149, wO 0), (153, wO 1)]) (ai (show sml2 (uk l) /\ may2 (uk l) /\ ¬ q6 (uk l) from hg) (ai (show sml2 (uk l) /\ may2 (uk l) from ⟨hg.1, hg.2.1⟩) (ai (Mm l hq)
   (KD hL ht h0 h1).down)))
theorem Mz (l : LU0) (hL : l.length = 96) (ht : pO l = 5) (h0 : rX l) (h1 : sA l) (hq : sq2 (wQ l)) (hg : sml2 (uk l) /\ may2 (uk l) /\ q6 (uk l)) : Gives prog 33 (qp l) (.tp [.ag [.q ((ofP (deN 48 (((pJ l).drop 48).take 48)), ofP (deN 48 ((pJ l).take 48))) : F2).1, .q ((ofP (deN 48 (((pJ l).drop 48).take 48)), ofP (deN 48 ((pJ l).take 48))) : F2).2, .q (r6 (rt2 (qV (pZ (pZ ((ofP (deN 48 (((pJ l).drop 48).take 48)), ofP (deN 48 ((pJ l).take 48))) : F2) ((ofP (deN 48 (((pJ l).drop 48).take 48)), ofP (deN 48 ((pJ l).take 48))) : F2)) ((ofP (deN 48 (((pJ l).drop 48).take 48)), ofP (deN 48 ((pJ l).take 48))) : F2)) (ofP (4 % 18446744073709551616), ofP (4 % 18446744073709551616))))).1, .q (r6 (rt2 (qV (pZ (pZ ((ofP (deN 48 (((pJ l).drop 48).take 48)), ofP (deN 48 ((pJ l).take 48))) : F2) ((ofP (deN 48 (((pJ l).drop 48).take 48)), ofP (deN 48 ((pJ l).take 48))) : F2)) ((ofP (deN 48 (((pJ l).drop 48).take 48)), ofP (deN 48 ((pJ l).take 48))) : F2)) (ofP (4 % 18446744073709551616), ofP (4 % 18446744073709551616))))).2, .c (.bool false)], vi0 0]) :=
 qq (Lb ++ [(129, wO 0), (149, wO 0), (153, wO 0)]) (ai (show sml2 (uk l) /\ may2 (uk l) /\ q6 (uk l) from hg) (ai (show sml2 (uk l) /\ may2 (uk l) from ⟨hg.1, hg.2.1⟩) (ai (Mm l hq)
   (KD hL ht h0 h1).down)))
theorem Jx (l : LU0) (hL : l.length = 96) (ht : pO l = 5) (h0 : rX l) (h1 : vr l) : Gives prog 33 (qp l) rJ :=
 qq [(3, wO 4), (29, vU), (36, rO 5 0), (37, wO 1), (45, rO 5 0), (57, sR), (64, rO 5 0), (65, wO 2), (73, rO 5 0), (85, si)] (ai (Bs l hL) (ai (wS l hL) (ai (L4 l hL h1)
   (TM hL ht h0).down)))
def Qz {l : LU0} (hL : l.length = 96) (ht : pO l = 5) (h0 : sQ l) := PLift.up (ai (wS l hL) (ai (LN l hL) (ai (Bv l hL) (ai (R5 l hL h0) (ai (Bv l hL) (ai (Mc l hL) (ai (Pw l hL ht) tt0)))))))
def Rq : LO0 := [(3, wO 4), (29, vU), (36, rO 5 0), (37, wO 2), (45, rO 5 0), (57, sR), (64, rO 5 0)]
theorem J5 (l : LU0) (hL : l.length = 96) (ht : pO l = 5) (h0 : sQ l) (h1 : sA l) : Gives prog 33 (qp l) rJ :=
 qq (Rq ++ [(65, wO 1), (73, rO 5 0), (83, si)]) (ai (Bs l hL) (ai (wS l hL) (ai (Lp l hL h1)
   (Qz hL ht h0).down)))
theorem Jl (l : LU0) (hL : l.length = 96) (ht : pO l = 5) (h0 : sQ l) (h1 : vr l) : Gives prog 33 (qp l) rJ :=
 qq (Rq ++ [(65, wO 2), (73, rO 5 0), (83, si)]) (ai (Bs l hL) (ai (wS l hL) (ai (L4 l hL h1)
   (Qz hL ht h0).down)))
theorem sn (l : LU0) (hL : l.length = 192) : (((ofL (((((pJ l).drop 48).drop 48).drop 48).drop 48)).size : Nat) : Int) = ((0 : Nat) : Int) := by rw [show (ofL (((((pJ l).drop 48).drop 48).drop 48).drop 48)).size = 0 from (show ((((((pJ l).drop 48).drop 48).drop 48).drop 48)).length = 0 from by simp [pP, hL])]
theorem qx (l : LU0) (hL : l.length = 192) : (0 : Int) <= 48 /\ (48 : Int) <= (ofL ((((pJ l).drop 48).drop 48).drop 48)).size := ⟨by decide, by rw [show (ofL ((((pJ l).drop 48).drop 48).drop 48)).size = 48 from (show (((((pJ l).drop 48).drop 48).drop 48)).length = 48 from by simp [pP, hL])]; decide⟩
theorem vE (l : LU0) (hL : l.length = 192) (h3 : c2 l 3 < 4002409555221667393417789825735904156556882819939007885332058136124031650490837864442687629129015664037894272559787) : (((((pJ l).drop 48).drop 48).drop 48).take 48).length = 48 /\ deN 48 (((((pJ l).drop 48).drop 48).drop 48).take 48) < 4002409555221667393417789825735904156556882819939007885332058136124031650490837864442687629129015664037894272559787 := ⟨by simp [pP, hL], h3⟩
theorem sZ (l : LU0) (hL : l.length = 192) : (((ofL ((((pJ l).drop 48).drop 48).drop 48)).size : Nat) : Int) = ((48 : Nat) : Int) := by rw [show (ofL ((((pJ l).drop 48).drop 48).drop 48)).size = 48 from (show (((((pJ l).drop 48).drop 48).drop 48)).length = 48 from by simp [pP, hL])]
theorem sc (l : LU0) (hL : l.length = 192) : (0 : Int) <= 48 /\ (48 : Int) <= (ofL (((pJ l).drop 48).drop 48)).size := ⟨by decide, by rw [show (ofL (((pJ l).drop 48).drop 48)).size = 96 from (show ((((pJ l).drop 48).drop 48)).length = 96 from by simp [pP, hL])]; decide⟩
theorem zj (l : LU0) (hL : l.length = 192) (h2 : c2 l 2 < 4002409555221667393417789825735904156556882819939007885332058136124031650490837864442687629129015664037894272559787) : ((((pJ l).drop 48).drop 48).take 48).length = 48 /\ deN 48 ((((pJ l).drop 48).drop 48).take 48) < 4002409555221667393417789825735904156556882819939007885332058136124031650490837864442687629129015664037894272559787 := ⟨by simp [pP, hL], h2⟩
theorem GO (l : LU0) (hL : l.length = 192) : (((ofL (((pJ l).drop 48).drop 48)).size : Nat) : Int) = ((96 : Nat) : Int) := by rw [show (ofL (((pJ l).drop 48).drop 48)).size = 96 from (show ((((pJ l).drop 48).drop 48)).length = 96 from by simp [pP, hL])]
theorem AI (l : LU0) (hL : l.length = 192) : (0 : Int) <= 48 /\ (48 : Int) <= (ofL ((pJ l).drop 48)).size := ⟨by decide, by rw [show (ofL ((pJ l).drop 48)).size = 144 from (show (((pJ l).drop 48)).length = 144 from by simp [pP, hL])]; decide⟩
theorem PA (l : LU0) (hL : l.length = 192) (h1 : c2 l 1 < 4002409555221667393417789825735904156556882819939007885332058136124031650490837864442687629129015664037894272559787) : (((pJ l).drop 48).take 48).length = 48 /\ deN 48 (((pJ l).drop 48).take 48) < 4002409555221667393417789825735904156556882819939007885332058136124031650490837864442687629129015664037894272559787 := ⟨by simp [pP, hL], h1⟩
theorem S9 (l : LU0) (hL : l.length = 192) : (((ofL ((pJ l).drop 48)).size : Nat) : Int) = ((144 : Nat) : Int) := by rw [show (ofL ((pJ l).drop 48)).size = 144 from (show (((pJ l).drop 48)).length = 144 from by simp [pP, hL])]
theorem EZ (l : LU0) (hL : l.length = 192) : (0 : Int) <= 48 /\ (48 : Int) <= (ofL (pJ l)).size := ⟨by decide, by rw [show (ofL (pJ l)).size = 192 from (show ((pJ l)).length = 192 from by simp [pP, hL])]; decide⟩
theorem aaw (l : LU0) (hL : l.length = 192) (h0 : c2 l 0 < 4002409555221667393417789825735904156556882819939007885332058136124031650490837864442687629129015664037894272559787) : ((pJ l).take 48).length = 48 /\ deN 48 ((pJ l).take 48) < 4002409555221667393417789825735904156556882819939007885332058136124031650490837864442687629129015664037894272559787 := ⟨by simp [pP, hL], h0⟩
theorem Ss (l : LU0) (hL : l.length = 192) : (((ofL (pJ l)).size : Nat) : Int) = ((192 : Nat) : Int) := by rw [show (ofL (pJ l)).size = 192 from (show ((pJ l)).length = 192 from by simp [pP, hL])]
theorem RN (l : LU0) (hL : l.length = 192) (ht : pO l = 0) : l.length = 192 /\ pO l = 0 := ⟨hL, ht⟩
abbrev Tu (l : LU0) := ((ofP (deN 48 (((((pJ l).drop 48).drop 48).drop 48).take 48)), ofP (deN 48 ((((pJ l).drop 48).drop 48).take 48))) : F2)
abbrev tf (l : LU0) := (((Aa l).1.val, (Aa l).2.val), ((Tu l).1.val, (Tu l).2.val), false)
def Xn {l : LU0} (hL : l.length = 192) (ht : pO l = 0) (h0 : rX l) := PLift.up (ai (AI l hL) (ai (S9 l hL) (ai (EZ l hL) (ai (aaw l hL h0) (ai (EZ l hL) (ai (Ss l hL) (ai (RN l hL ht) tt0)))))))
abbrev vG (l : LU0) : Prop := c2 l 3 < 4002409555221667393417789825735904156556882819939007885332058136124031650490837864442687629129015664037894272559787
abbrev uF (l : LU0) : Prop := c2 l 2 < 4002409555221667393417789825735904156556882819939007885332058136124031650490837864442687629129015664037894272559787
def Kw {l : LU0} (hL : l.length = 192) (ht : pO l = 0) (h0 : rX l) (h1 : sA l) := PLift.up (ai (sc l hL) (ai (GO l hL) (ai (AI l hL) (ai (PA l hL h1)
   (Xn hL ht h0).down))))
def FT {l : LU0} (hL : l.length = 192) (ht : pO l = 0) (h0 : rX l) (h1 : sA l) (h2 : uF l) := PLift.up (ai (qx l hL) (ai (sZ l hL) (ai (sc l hL) (ai (zj l hL h2)
   (Kw hL ht h0 h1).down))))
def KB : Nat × Ora := (57, { ch := 1, hi := fun _ => 144 })
def KH : Nat × Ora := (29, { ch := 1, hi := fun _ => 192 })
def AC : LO0 := [(3, wO 5), KH, (36, rO 5 0), (37, wO 1), (45, rO 5 0), KB, (64, rO 5 0), (65, wO 1), (73, rO 5 0), (85, vU), (92, rO 5 0)]
def KG : LO0 := [(93, wO 1), (101, rO 5 0), (113, sR), (120, rO 5 0), (121, wO 1), (129, rO 5 0), (141, si)]
theorem Vm (l : LU0) (hL : l.length = 192) (ht : pO l = 0) (h0 : rX l) (h1 : sA l) (h2 : uF l) (h3 : vG l) (hr : sml2 (tf l) /\ ¬ may2 (tf l)) : Gives prog 33 (qp l) Je :=
 qq (AC ++ KG ++ [(178, wO 1)]) (ai (show sml2 (tf l) /\ ¬ may2 (tf l) from hr) (ai (sn l hL) (ai (qx l hL) (ai (vE l hL h3)
   (FT hL ht h0 h1 h2).down))))
theorem Wy (l : LU0) (hL : l.length = 192) (ht : pO l = 0) (h0 : rX l) (h1 : sA l) (h2 : uF l) (h3 : vG l) (hg : sml2 (tf l) /\ may2 (tf l) /\ ¬ q6 (tf l)) : Gives prog 33 (qp l) K1 :=
 qq (AC ++ KG ++ [(178, wO 0), (182, wO 1)]) (ai (show sml2 (tf l) /\ may2 (tf l) /\ ¬ q6 (tf l) from hg) (ai (show sml2 (tf l) /\ may2 (tf l) from ⟨hg.1, hg.2.1⟩) (ai (sn l hL) (ai (qx l hL) (ai (vE l hL h3)
   (FT hL ht h0 h1 h2).down)))))
theorem Th (l : LU0) (hL : l.length = 192) (ht : pO l = 0) (h0 : rX l) (h1 : sA l) (h2 : uF l) (h3 : vG l) (hg : sml2 (tf l) /\ may2 (tf l) /\ q6 (tf l)) : Gives prog 33 (qp l) (.tp [.ag [.q ((ofP (deN 48 (((pJ l).drop 48).take 48)), ofP (deN 48 ((pJ l).take 48))) : F2).1, .q ((ofP (deN 48 (((pJ l).drop 48).take 48)), ofP (deN 48 ((pJ l).take 48))) : F2).2, .q ((ofP (deN 48 (((((pJ l).drop 48).drop 48).drop 48).take 48)), ofP (deN 48 ((((pJ l).drop 48).drop 48).take 48))) : F2).1, .q ((ofP (deN 48 (((((pJ l).drop 48).drop 48).drop 48).take 48)), ofP (deN 48 ((((pJ l).drop 48).drop 48).take 48))) : F2).2, .c (.bool false)], vi0 0]) :=
 qq (AC ++ KG ++ [(178, wO 0), (182, wO 0)]) (ai (show sml2 (tf l) /\ may2 (tf l) /\ q6 (tf l) from hg) (ai (show sml2 (tf l) /\ may2 (tf l) from ⟨hg.1, hg.2.1⟩) (ai (sn l hL) (ai (qx l hL) (ai (vE l hL h3)
   (FT hL ht h0 h1 h2).down)))))
theorem xE (l : LU0) (hL : l.length = 192) (h3 : 4002409555221667393417789825735904156556882819939007885332058136124031650490837864442687629129015664037894272559787 <= c2 l 3) : (((((pJ l).drop 48).drop 48).drop 48).take 48).length = 48 /\ 4002409555221667393417789825735904156556882819939007885332058136124031650490837864442687629129015664037894272559787 <= deN 48 (((((pJ l).drop 48).drop 48).drop 48).take 48) := ⟨by simp [pP, hL], h3⟩
abbrev xR (l : LU0) : Prop := 4002409555221667393417789825735904156556882819939007885332058136124031650490837864442687629129015664037894272559787 <= c2 l 3
theorem JD (l : LU0) (hL : l.length = 192) (ht : pO l = 0) (h0 : rX l) (h1 : sA l) (h2 : uF l) (h3 : xR l) : Gives prog 33 (qp l) rJ :=
 qq (AC ++ [(93, wO 1), (101, rO 5 0), (113, sR), (120, rO 5 0), (121, wO 2), (129, rO 5 0), (141, si)]) (ai (sn l hL) (ai (qx l hL) (ai (xE l hL h3)
   (FT hL ht h0 h1 h2).down)))
theorem xv (l : LU0) (hL : l.length = 192) (h2 : 4002409555221667393417789825735904156556882819939007885332058136124031650490837864442687629129015664037894272559787 <= c2 l 2) : ((((pJ l).drop 48).drop 48).take 48).length = 48 /\ 4002409555221667393417789825735904156556882819939007885332058136124031650490837864442687629129015664037894272559787 <= deN 48 ((((pJ l).drop 48).drop 48).take 48) := ⟨by simp [pP, hL], h2⟩
abbrev xP (l : LU0) : Prop := 4002409555221667393417789825735904156556882819939007885332058136124031650490837864442687629129015664037894272559787 <= c2 l 2
theorem Kr (l : LU0) (hL : l.length = 192) (ht : pO l = 0) (h0 : rX l) (h1 : sA l) (h2 : xP l) (h3 : vG l) : Gives prog 33 (qp l) rJ :=
 qq (AC ++ [(93, wO 2), (101, rO 5 0), (113, sR), (120, rO 5 0), (121, wO 1), (129, rO 5 0), (139, si)]) (ai (sn l hL) (ai (qx l hL) (ai (vE l hL h3) (ai (qx l hL) (ai (sZ l hL) (ai (sc l hL) (ai (xv l hL h2)
   (Kw hL ht h0 h1).down)))))))
theorem Ji (l : LU0) (hL : l.length = 192) (ht : pO l = 0) (h0 : rX l) (h1 : sA l) (h2 : xP l) (h3 : xR l) : Gives prog 33 (qp l) rJ :=
 qq (AC ++ [(93, wO 2), (101, rO 5 0), (113, sR), (120, rO 5 0), (121, wO 2), (129, rO 5 0), (139, si)]) (ai (sn l hL) (ai (qx l hL) (ai (xE l hL h3) (ai (qx l hL) (ai (sZ l hL) (ai (sc l hL) (ai (xv l hL h2)
   (Kw hL ht h0 h1).down)))))))
theorem RK (l : LU0) (hL : l.length = 192) (h1 : 4002409555221667393417789825735904156556882819939007885332058136124031650490837864442687629129015664037894272559787 <= c2 l 1) : (((pJ l).drop 48).take 48).length = 48 /\ 4002409555221667393417789825735904156556882819939007885332058136124031650490837864442687629129015664037894272559787 <= deN 48 (((pJ l).drop 48).take 48) := ⟨by simp [pP, hL], h1⟩
def FP {l : LU0} (hL : l.length = 192) (ht : pO l = 0) (h0 : rX l) (h1 : vr l) := PLift.up (ai (sc l hL) (ai (GO l hL) (ai (AI l hL) (ai (RK l hL h1)
   (Xn hL ht h0).down))))
def G4 : LO0 := [(3, wO 5), KH, (36, rO 5 0), (37, wO 1), (45, rO 5 0), KB, (64, rO 5 0), (65, wO 2), (73, rO 5 0), (85, vU), (92, rO 5 0)]
theorem Kq (l : LU0) (hL : l.length = 192) (ht : pO l = 0) (h0 : rX l) (h1 : vr l) (h2 : uF l) (h3 : vG l) : Gives prog 33 (qp l) rJ :=
 qq (G4 ++ [(93, wO 1), (101, rO 5 0), (111, sR), (118, rO 5 0), (119, wO 1), (127, rO 5 0), (137, si)]) (ai (sn l hL) (ai (qx l hL) (ai (vE l hL h3) (ai (qx l hL) (ai (sZ l hL) (ai (sc l hL) (ai (zj l hL h2)
   (FP hL ht h0 h1).down)))))))
theorem Kk (l : LU0) (hL : l.length = 192) (ht : pO l = 0) (h0 : rX l) (h1 : vr l) (h2 : uF l) (h3 : xR l) : Gives prog 33 (qp l) rJ :=
 qq (G4 ++ [(93, wO 1), (101, rO 5 0), (111, sR), (118, rO 5 0), (119, wO 2), (127, rO 5 0), (137, si)]) (ai (sn l hL) (ai (qx l hL) (ai (xE l hL h3) (ai (qx l hL) (ai (sZ l hL) (ai (sc l hL) (ai (zj l hL h2)
   (FP hL ht h0 h1).down)))))))
theorem JK (l : LU0) (hL : l.length = 192) (ht : pO l = 0) (h0 : rX l) (h1 : vr l) (h2 : xP l) (h3 : vG l) : Gives prog 33 (qp l) rJ :=
 qq (G4 ++ [(93, wO 2), (101, rO 5 0), (111, sR), (118, rO 5 0), (119, wO 1), (127, rO 5 0), (137, si)]) (ai (sn l hL) (ai (qx l hL) (ai (vE l hL h3) (ai (qx l hL) (ai (sZ l hL) (ai (sc l hL) (ai (xv l hL h2)
   (FP hL ht h0 h1).down)))))))
theorem Kd (l : LU0) (hL : l.length = 192) (ht : pO l = 0) (h0 : rX l) (h1 : vr l) (h2 : xP l) (h3 : xR l) : Gives prog 33 (qp l) rJ :=
 qq (G4 ++ [(93, wO 2), (101, rO 5 0), (111, sR), (118, rO 5 0), (119, wO 2), (127, rO 5 0), (137, si)]) (ai (sn l hL) (ai (qx l hL) (ai (xE l hL h3) (ai (qx l hL) (ai (sZ l hL) (ai (sc l hL) (ai (xv l hL h2)
   (FP hL ht h0 h1).down)))))))
theorem aag (l : LU0) (hL : l.length = 192) (h0 : 4002409555221667393417789825735904156556882819939007885332058136124031650490837864442687629129015664037894272559787 <= c2 l 0) : ((pJ l).take 48).length = 48 /\ 4002409555221667393417789825735904156556882819939007885332058136124031650490837864442687629129015664037894272559787 <= deN 48 ((pJ l).take 48) := ⟨by simp [pP, hL], h0⟩
def Xp {l : LU0} (hL : l.length = 192) (ht : pO l = 0) (h0 : 4002409555221667393417789825735904156556882819939007885332058136124031650490837864442687629129015664037894272559787 <= c2 l 0) := PLift.up (ai (AI l hL) (ai (S9 l hL) (ai (EZ l hL) (ai (aag l hL h0) (ai (EZ l hL) (ai (Ss l hL) (ai (RN l hL ht) tt0)))))))
def Ff {l : LU0} (hL : l.length = 192) (ht : pO l = 0) (h0 : sQ l) (h1 : sA l) := PLift.up (ai (sc l hL) (ai (GO l hL) (ai (AI l hL) (ai (PA l hL h1)
   (Xp hL ht h0).down))))
def xr : LO0 := [(3, wO 5), KH, (36, rO 5 0), (37, wO 2), (45, rO 5 0), KB, (64, rO 5 0)]
def FA : LO0 := [(65, wO 1), (73, rO 5 0), (83, vU), (90, rO 5 0)]
def Fp : LO0 := [(91, wO 1), (99, rO 5 0), (109, sR), (116, rO 5 0)]
def GN : LO0 := [(117, wO 1), (125, rO 5 0), (135, si)]
theorem JB (l : LU0) (hL : l.length = 192) (ht : pO l = 0) (h0 : sQ l) (h1 : sA l) (h2 : uF l) (h3 : vG l) : Gives prog 33 (qp l) rJ :=
 qq (xr ++ FA ++ Fp ++ GN) (ai (sn l hL) (ai (qx l hL) (ai (vE l hL h3) (ai (qx l hL) (ai (sZ l hL) (ai (sc l hL) (ai (zj l hL h2)
   (Ff hL ht h0 h1).down)))))))
def FQ : LO0 := [(117, wO 2), (125, rO 5 0), (135, si)]
theorem La (l : LU0) (hL : l.length = 192) (ht : pO l = 0) (h0 : sQ l) (h1 : sA l) (h2 : uF l) (h3 : xR l) : Gives prog 33 (qp l) rJ :=
 qq (xr ++ FA ++ Fp ++ FQ) (ai (sn l hL) (ai (qx l hL) (ai (xE l hL h3) (ai (qx l hL) (ai (sZ l hL) (ai (sc l hL) (ai (zj l hL h2)
   (Ff hL ht h0 h1).down)))))))
def GL : LO0 := [(91, wO 2), (99, rO 5 0), (109, sR), (116, rO 5 0)]
theorem JH (l : LU0) (hL : l.length = 192) (ht : pO l = 0) (h0 : sQ l) (h1 : sA l) (h2 : xP l) (h3 : vG l) : Gives prog 33 (qp l) rJ :=
 qq (xr ++ FA ++ GL ++ GN) (ai (sn l hL) (ai (qx l hL) (ai (vE l hL h3) (ai (qx l hL) (ai (sZ l hL) (ai (sc l hL) (ai (xv l hL h2)
   (Ff hL ht h0 h1).down)))))))
theorem Jt (l : LU0) (hL : l.length = 192) (ht : pO l = 0) (h0 : sQ l) (h1 : sA l) (h2 : xP l) (h3 : xR l) : Gives prog 33 (qp l) rJ :=
 qq (xr ++ FA ++ GL ++ FQ) (ai (sn l hL) (ai (qx l hL) (ai (xE l hL h3) (ai (qx l hL) (ai (sZ l hL) (ai (sc l hL) (ai (xv l hL h2)
   (Ff hL ht h0 h1).down)))))))
def Fl {l : LU0} (hL : l.length = 192) (ht : pO l = 0) (h0 : sQ l) (h1 : vr l) := PLift.up (ai (sc l hL) (ai (GO l hL) (ai (AI l hL) (ai (RK l hL h1)
   (Xp hL ht h0).down))))
def FS : LO0 := [(65, wO 2), (73, rO 5 0), (83, vU), (90, rO 5 0)]
theorem Ko (l : LU0) (hL : l.length = 192) (ht : pO l = 0) (h0 : sQ l) (h1 : vr l) (h2 : uF l) (h3 : vG l) : Gives prog 33 (qp l) rJ :=
 qq (xr ++ FS ++ Fp ++ GN) (ai (sn l hL) (ai (qx l hL) (ai (vE l hL h3) (ai (qx l hL) (ai (sZ l hL) (ai (sc l hL) (ai (zj l hL h2)
   (Fl hL ht h0 h1).down)))))))
theorem KR (l : LU0) (hL : l.length = 192) (ht : pO l = 0) (h0 : sQ l) (h1 : vr l) (h2 : uF l) (h3 : xR l) : Gives prog 33 (qp l) rJ :=
 qq (xr ++ FS ++ Fp ++ FQ) (ai (sn l hL) (ai (qx l hL) (ai (xE l hL h3) (ai (qx l hL) (ai (sZ l hL) (ai (sc l hL) (ai (zj l hL h2)
   (Fl hL ht h0 h1).down)))))))
theorem J9 (l : LU0) (hL : l.length = 192) (ht : pO l = 0) (h0 : sQ l) (h1 : vr l) (h2 : xP l) (h3 : vG l) : Gives prog 33 (qp l) rJ :=
 qq (xr ++ FS ++ GL ++ GN) (ai (sn l hL) (ai (qx l hL) (ai (vE l hL h3) (ai (qx l hL) (ai (sZ l hL) (ai (sc l hL) (ai (xv l hL h2)
   (Fl hL ht h0 h1).down)))))))
theorem Jh (l : LU0) (hL : l.length = 192) (ht : pO l = 0) (h0 : sQ l) (h1 : vr l) (h2 : xP l) (h3 : xR l) : Gives prog 33 (qp l) rJ :=
 qq (xr ++ FS ++ GL ++ FQ) (ai (sn l hL) (ai (qx l hL) (ai (xE l hL h3) (ai (qx l hL) (ai (sZ l hL) (ai (sc l hL) (ai (xv l hL h2)
   (Fl hL ht h0 h1).down)))))))
def sh2 (l : LU0) : Prop := l.length = 96 /\ (pO l = 4 ∨ pO l = 5)
def lo2 (l : LU0) : Prop := l.length = 192 /\ pO l = 0
theorem Cy (x : F2) : of2 (x.1.val, x.2.val) = x := by unfold of2; rw [wx, wx]
theorem tG (x y : F2) (b : Bool) : sml2 ((x.1.val, x.2.val), (y.1.val, y.2.val), b) := ⟨⟨wA _, wA _⟩, ⟨wA _, wA _⟩⟩
theorem F1 (a : F2) : pZ (r6 a) (r6 a) = pZ a a := by refine vL ?_ ?_ <;> simp only [pZ, r6] <;> grind
theorem vX (x : F2) (h : Bool) (hq : sq2 (sv x)) : may2 ((x.1.val, x.2.val), ((sy2 (sv x) h).1.val, (sy2 (sv x) h).2.val), false) := by
 show is2 (x.1.val, x.2.val) /\ is2 ((sy2 (sv x) h).1.val, (sy2 (sv x) h).2.val) /\ pZ (of2 ((sy2 (sv x) h).1.val, (sy2 (sv x) h).2.val)) (of2 ((sy2 (sv x) h).1.val, (sy2 (sv x) h).2.val)) = sv (of2 (x.1.val, x.2.val))
 refine ⟨⟨x.1.isLt, x.2.isLt⟩, ⟨Fin.isLt _, Fin.isLt _⟩, ?_⟩
 rw [Cy, Cy]
 cases h
 ·exact Kf hq
 ·show pZ (r6 (rt2 (sv x))) (r6 (rt2 (sv x))) = sv x
  rw [F1]; exact Kf hq
def altG2 (l : LU0) : ug := [(some (l.length ≠ 96 /\ l.length ≠ 192), .tp [.ag [.c (.int .u64 0), .c (.int .u64 0), .c (.int .u64 0), .c (.int .u64 0), .c (.int .u64 0), .c (.int .u64 0), .c (.int .u64 0), .c (.int .u64 0), .c (.int .u64 0), .c (.int .u64 0), .c (.int .u64 0), .c (.int .u64 0), .c (.int .u64 0), .c (.int .u64 0), .c (.int .u64 0), .c (.int .u64 0), .c (.int .u64 0), .c (.int .u64 0), .c (.int .u64 0), .c (.int .u64 0), .c (.int .u64 0), .c (.int .u64 0), .c (.int .u64 0), .c (.int .u64 0), .c (.bool false)], vi0 3]), (some ((l.length = 96 /\ pO l ≠ 4 /\ pO l ≠ 5 /\ pO l ≠ 6) ∨ (l.length = 192 /\ pO l ≠ 0 /\ pO l ≠ 2)), .tp [.ag [.c (.int .u64 0), .c (.int .u64 0), .c (.int .u64 0), .c (.int .u64 0), .c (.int .u64 0), .c (.int .u64 0), .c (.int .u64 0), .c (.int .u64 0), .c (.int .u64 0), .c (.int .u64 0), .c (.int .u64 0), .c (.int .u64 0), .c (.int .u64 0), .c (.int .u64 0), .c (.int .u64 0), .c (.int .u64 0), .c (.int .u64 0), .c (.int .u64 0), .c (.int .u64 0), .c (.int .u64 0), .c (.int .u64 0), .c (.int .u64 0), .c (.int .u64 0), .c (.int .u64 0), .c (.bool false)], vi0 32]), (some (((l.length = 96 /\ pO l = 6) ∨ (l.length = 192 /\ pO l = 2)) /\ ¬ sP (pJ l)), .tp [.ag [.c (.int .u64 0), .c (.int .u64 0), .c (.int .u64 0), .c (.int .u64 0), .c (.int .u64 0), .c (.int .u64 0), .c (.int .u64 0), .c (.int .u64 0), .c (.int .u64 0), .c (.int .u64 0), .c (.int .u64 0), .c (.int .u64 0), .c (.int .u64 0), .c (.int .u64 0), .c (.int .u64 0), .c (.int .u64 0), .c (.int .u64 0), .c (.int .u64 0), .c (.int .u64 0), .c (.int .u64 0), .c (.int .u64 0), .c (.int .u64 0), .c (.int .u64 0), .c (.int .u64 0), .c (.bool false)], vi0 33]), (some (((l.length = 96 /\ pO l = 6) ∨ (l.length = 192 /\ pO l = 2)) /\ sP (pJ l)), .tp [.ag [.c (.int .u64 0), .c (.int .u64 0), .c (.int .u64 0), .c (.int .u64 0), .c (.int .u64 0), .c (.int .u64 0), .c (.int .u64 0), .c (.int .u64 0), .c (.int .u64 0), .c (.int .u64 0), .c (.int .u64 0), .c (.int .u64 0), .c (.int .u64 0), .c (.int .u64 0), .c (.int .u64 0), .c (.int .u64 0), .c (.int .u64 0), .c (.int .u64 0), .c (.int .u64 0), .c (.int .u64 0), .c (.int .u64 0), .c (.int .u64 0), .c (.int .u64 0), .c (.int .u64 0), .c (.bool true)], vi0 0]), (some (sh2 l /\ ¬ (c2 l 0 < Pp /\ c2 l 1 < Pp)), .tp [.ag [.c (.int .u64 0), .c (.int .u64 0), .c (.int .u64 0), .c (.int .u64 0), .c (.int .u64 0), .c (.int .u64 0), .c (.int .u64 0), .c (.int .u64 0), .c (.int .u64 0), .c (.int .u64 0), .c (.int .u64 0), .c (.int .u64 0), .c (.int .u64 0), .c (.int .u64 0), .c (.int .u64 0), .c (.int .u64 0), .c (.int .u64 0), .c (.int .u64 0), .c (.int .u64 0), .c (.int .u64 0), .c (.int .u64 0), .c (.int .u64 0), .c (.int .u64 0), .c (.int .u64 0), .c (.bool false)], vi0 20]), (some (sh2 l /\ (c2 l 0 < Pp /\ c2 l 1 < Pp) /\ ¬ sq2 (sv ((ofP (c2 l 1), ofP (c2 l 0)) : F2))), .tp [.ag [.c (.int .u64 0), .c (.int .u64 0), .c (.int .u64 0), .c (.int .u64 0), .c (.int .u64 0), .c (.int .u64 0), .c (.int .u64 0), .c (.int .u64 0), .c (.int .u64 0), .c (.int .u64 0), .c (.int .u64 0), .c (.int .u64 0), .c (.int .u64 0), .c (.int .u64 0), .c (.int .u64 0), .c (.int .u64 0), .c (.int .u64 0), .c (.int .u64 0), .c (.int .u64 0), .c (.int .u64 0), .c (.int .u64 0), .c (.int .u64 0), .c (.int .u64 0), .c (.int .u64 0), .c (.bool false)], vi0 30]), (some (sh2 l /\ (c2 l 0 < Pp /\ c2 l 1 < Pp) /\ sq2 (sv ((ofP (c2 l 1), ofP (c2 l 0)) : F2)) /\ ¬ q6 ((((ofP (c2 l 1), ofP (c2 l 0)) : F2).1.val, ((ofP (c2 l 1), ofP (c2 l 0)) : F2).2.val), ((sy2 (sv ((ofP (c2 l 1), ofP (c2 l 0)) : F2)) (decide (pO l = 5))).1.val, (sy2 (sv ((ofP (c2 l 1), ofP (c2 l 0)) : F2)) (decide (pO l = 5))).2.val), false)), .tp [.ag [.c (.int .u64 0), .c (.int .u64 0), .c (.int .u64 0), .c (.int .u64 0), .c (.int .u64 0), .c (.int .u64 0), .c (.int .u64 0), .c (.int .u64 0), .c (.int .u64 0), .c (.int .u64 0), .c (.int .u64 0), .c (.int .u64 0), .c (.int .u64 0), .c (.int .u64 0), .c (.int .u64 0), .c (.int .u64 0), .c (.int .u64 0), .c (.int .u64 0), .c (.int .u64 0), .c (.int .u64 0), .c (.int .u64 0), .c (.int .u64 0), .c (.int .u64 0), .c (.int .u64 0), .c (.bool false)], vi0 31]), (some (sh2 l /\ (c2 l 0 < Pp /\ c2 l 1 < Pp) /\ sq2 (sv ((ofP (c2 l 1), ofP (c2 l 0)) : F2)) /\ q6 ((((ofP (c2 l 1), ofP (c2 l 0)) : F2).1.val, ((ofP (c2 l 1), ofP (c2 l 0)) : F2).2.val), ((sy2 (sv ((ofP (c2 l 1), ofP (c2 l 0)) : F2)) (decide (pO l = 5))).1.val, (sy2 (sv ((ofP (c2 l 1), ofP (c2 l 0)) : F2)) (decide (pO l = 5))).2.val), false)), .tp [.ag [.q ((ofP (c2 l 1), ofP (c2 l 0)) : F2).1, .q ((ofP (c2 l 1), ofP (c2 l 0)) : F2).2, .q (sy2 (sv ((ofP (c2 l 1), ofP (c2 l 0)) : F2)) (decide (pO l = 5))).1, .q (sy2 (sv ((ofP (c2 l 1), ofP (c2 l 0)) : F2)) (decide (pO l = 5))).2, .c (.bool false)], vi0 0]), (some (lo2 l /\ ¬ (c2 l 0 < Pp /\ c2 l 1 < Pp /\ c2 l 2 < Pp /\ c2 l 3 < Pp)), .tp [.ag [.c (.int .u64 0), .c (.int .u64 0), .c (.int .u64 0), .c (.int .u64 0), .c (.int .u64 0), .c (.int .u64 0), .c (.int .u64 0), .c (.int .u64 0), .c (.int .u64 0), .c (.int .u64 0), .c (.int .u64 0), .c (.int .u64 0), .c (.int .u64 0), .c (.int .u64 0), .c (.int .u64 0), .c (.int .u64 0), .c (.int .u64 0), .c (.int .u64 0), .c (.int .u64 0), .c (.int .u64 0), .c (.int .u64 0), .c (.int .u64 0), .c (.int .u64 0), .c (.int .u64 0), .c (.bool false)], vi0 20]), (some (lo2 l /\ (c2 l 0 < Pp /\ c2 l 1 < Pp /\ c2 l 2 < Pp /\ c2 l 3 < Pp) /\ ¬ may2 ((((ofP (c2 l 1), ofP (c2 l 0)) : F2).1.val, ((ofP (c2 l 1), ofP (c2 l 0)) : F2).2.val), (((ofP (c2 l 3), ofP (c2 l 2)) : F2).1.val, ((ofP (c2 l 3), ofP (c2 l 2)) : F2).2.val), false)), .tp [.ag [.c (.int .u64 0), .c (.int .u64 0), .c (.int .u64 0), .c (.int .u64 0), .c (.int .u64 0), .c (.int .u64 0), .c (.int .u64 0), .c (.int .u64 0), .c (.int .u64 0), .c (.int .u64 0), .c (.int .u64 0), .c (.int .u64 0), .c (.int .u64 0), .c (.int .u64 0), .c (.int .u64 0), .c (.int .u64 0), .c (.int .u64 0), .c (.int .u64 0), .c (.int .u64 0), .c (.int .u64 0), .c (.int .u64 0), .c (.int .u64 0), .c (.int .u64 0), .c (.int .u64 0), .c (.bool false)], vi0 30]), (some (lo2 l /\ (c2 l 0 < Pp /\ c2 l 1 < Pp /\ c2 l 2 < Pp /\ c2 l 3 < Pp) /\ may2 ((((ofP (c2 l 1), ofP (c2 l 0)) : F2).1.val, ((ofP (c2 l 1), ofP (c2 l 0)) : F2).2.val), (((ofP (c2 l 3), ofP (c2 l 2)) : F2).1.val, ((ofP (c2 l 3), ofP (c2 l 2)) : F2).2.val), false) /\ ¬ q6 ((((ofP (c2 l 1), ofP (c2 l 0)) : F2).1.val, ((ofP (c2 l 1), ofP (c2 l 0)) : F2).2.val), (((ofP (c2 l 3), ofP (c2 l 2)) : F2).1.val, ((ofP (c2 l 3), ofP (c2 l 2)) : F2).2.val), false)), .tp [.ag [.c (.int .u64 0), .c (.int .u64 0), .c (.int .u64 0), .c (.int .u64 0), .c (.int .u64 0), .c (.int .u64 0), .c (.int .u64 0), .c (.int .u64 0), .c (.int .u64 0), .c (.int .u64 0), .c (.int .u64 0), .c (.int .u64 0), .c (.int .u64 0), .c (.int .u64 0), .c (.int .u64 0), .c (.int .u64 0), .c (.int .u64 0), .c (.int .u64 0), .c (.int .u64 0), .c (.int .u64 0), .c (.int .u64 0), .c (.int .u64 0), .c (.int .u64 0), .c (.int .u64 0), .c (.bool false)], vi0 31]), (some (lo2 l /\ (c2 l 0 < Pp /\ c2 l 1 < Pp /\ c2 l 2 < Pp /\ c2 l 3 < Pp) /\ may2 ((((ofP (c2 l 1), ofP (c2 l 0)) : F2).1.val, ((ofP (c2 l 1), ofP (c2 l 0)) : F2).2.val), (((ofP (c2 l 3), ofP (c2 l 2)) : F2).1.val, ((ofP (c2 l 3), ofP (c2 l 2)) : F2).2.val), false) /\ q6 ((((ofP (c2 l 1), ofP (c2 l 0)) : F2).1.val, ((ofP (c2 l 1), ofP (c2 l 0)) : F2).2.val), (((ofP (c2 l 3), ofP (c2 l 2)) : F2).1.val, ((ofP (c2 l 3), ofP (c2 l 2)) : F2).2.val), false)), .tp [.ag [.q ((ofP (c2 l 1), ofP (c2 l 0)) : F2).1, .q ((ofP (c2 l 1), ofP (c2 l 0)) : F2).2, .q ((ofP (c2 l 3), ofP (c2 l 2)) : F2).1, .q ((ofP (c2 l 3), ofP (c2 l 2)) : F2).2, .c (.bool false)], vi0 0])]
set_option maxHeartbeats 4000000 in
theorem Sb (l : LU0) : ∀ c r, (c, r) ∈ altG2 l -> c.getD True -> Gives prog 33 [.t (.v (.string (ofL l)))] r := by
 intro c x hm hc
 simp only [altG2, List.mem_cons, pi0, List.not_mem_nil, or_false] at hm
 rcases hm with ⟨rfl, rfl⟩ | ⟨rfl, rfl⟩ | ⟨rfl, rfl⟩ | ⟨rfl, rfl⟩ | ⟨rfl, rfl⟩ | ⟨rfl, rfl⟩ | ⟨rfl, rfl⟩ | ⟨rfl, rfl⟩ | ⟨rfl, rfl⟩ | ⟨rfl, rfl⟩ | ⟨rfl, rfl⟩ | ⟨rfl, rfl⟩
 ·exact Uc l hc
 ·exact RY l hc
 ·exact QG l hc
 ·obtain ⟨h | h, hz⟩ := hc
  ·exact WC l ⟨h, hz⟩
  ·exact VW l ⟨h, hz⟩
 ·obtain ⟨⟨hL, ht | ht⟩, h⟩ := hc
  ·by_cases h0 : c2 l 0 < Pp
   ·by_cases h1 : c2 l 1 < Pp
    ·exact absurd ⟨h0, h1⟩ h
    ·exact JP l hL ht h0 (Nat.le_of_not_lt h1)
   ·by_cases h1 : c2 l 1 < Pp
    ·exact Kc l hL ht (Nat.le_of_not_lt h0) h1
    ·exact JE l hL ht (Nat.le_of_not_lt h0) (Nat.le_of_not_lt h1)
  ·by_cases h0 : c2 l 0 < Pp
   ·by_cases h1 : c2 l 1 < Pp
    ·exact absurd ⟨h0, h1⟩ h
    ·exact Jx l hL ht h0 (Nat.le_of_not_lt h1)
   ·by_cases h1 : c2 l 1 < Pp
    ·exact J5 l hL ht (Nat.le_of_not_lt h0) h1
    ·exact Jl l hL ht (Nat.le_of_not_lt h0) (Nat.le_of_not_lt h1)
 ·obtain ⟨⟨hL, ht | ht⟩, ⟨h0, h1⟩, hq⟩ := hc
  ·exact Sd l hL ht h0 h1 hq
  ·exact QT l hL ht h0 h1 hq
 ·obtain ⟨⟨hL, ht | ht⟩, ⟨h0, h1⟩, hq, hg⟩ := hc
  ·have e : decide (pO l = 5) = false := by rw [ht]; rfl
   rw [e] at hg
   exact QY l hL ht h0 h1 hq ⟨tG _ _ _, vX _ false hq, hg⟩
  ·have e : decide (pO l = 5) = true := by rw [ht]; rfl
   rw [e] at hg
   exact Si l hL ht h0 h1 hq ⟨tG _ _ _, vX _ true hq, hg⟩
 ·obtain ⟨⟨hL, ht | ht⟩, ⟨h0, h1⟩, hq, hg⟩ := hc
  ·have e : decide (pO l = 5) = false := by rw [ht]; rfl
   rw [e] at hg ⊢
   exact MH l hL ht h0 h1 hq ⟨tG _ _ _, vX _ false hq, hg⟩
  ·have e : decide (pO l = 5) = true := by rw [ht]; rfl
   rw [e] at hg ⊢
   exact Mz l hL ht h0 h1 hq ⟨tG _ _ _, vX _ true hq, hg⟩
 ·obtain ⟨⟨hL, ht⟩, h⟩ := hc
  by_cases h0 : c2 l 0 < Pp
  ·by_cases h1 : c2 l 1 < Pp
   ·by_cases h2 : c2 l 2 < Pp
    ·by_cases h3 : c2 l 3 < Pp
     ·exact absurd ⟨h0, h1, h2, h3⟩ h
     ·exact JD l hL ht h0 h1 h2 (Nat.le_of_not_lt h3)
    ·by_cases h3 : c2 l 3 < Pp
     ·exact Kr l hL ht h0 h1 (Nat.le_of_not_lt h2) h3
     ·exact Ji l hL ht h0 h1 (Nat.le_of_not_lt h2) (Nat.le_of_not_lt h3)
   ·by_cases h2 : c2 l 2 < Pp
    ·by_cases h3 : c2 l 3 < Pp
     ·exact Kq l hL ht h0 (Nat.le_of_not_lt h1) h2 h3
     ·exact Kk l hL ht h0 (Nat.le_of_not_lt h1) h2 (Nat.le_of_not_lt h3)
    ·by_cases h3 : c2 l 3 < Pp
     ·exact JK l hL ht h0 (Nat.le_of_not_lt h1) (Nat.le_of_not_lt h2) h3
     ·exact Kd l hL ht h0 (Nat.le_of_not_lt h1) (Nat.le_of_not_lt h2) (Nat.le_of_not_lt h3)
  ·by_cases h1 : c2 l 1 < Pp
   ·by_cases h2 : c2 l 2 < Pp
    ·by_cases h3 : c2 l 3 < Pp
     ·exact JB l hL ht (Nat.le_of_not_lt h0) h1 h2 h3
     ·exact La l hL ht (Nat.le_of_not_lt h0) h1 h2 (Nat.le_of_not_lt h3)
    ·by_cases h3 : c2 l 3 < Pp
     ·exact JH l hL ht (Nat.le_of_not_lt h0) h1 (Nat.le_of_not_lt h2) h3
     ·exact Jt l hL ht (Nat.le_of_not_lt h0) h1 (Nat.le_of_not_lt h2) (Nat.le_of_not_lt h3)
   ·by_cases h2 : c2 l 2 < Pp
    ·by_cases h3 : c2 l 3 < Pp
     ·exact Ko l hL ht (Nat.le_of_not_lt h0) (Nat.le_of_not_lt h1) h2 h3
     ·exact KR l hL ht (Nat.le_of_not_lt h0) (Nat.le_of_not_lt h1) h2 (Nat.le_of_not_lt h3)
    ·by_cases h3 : c2 l 3 < Pp
     ·exact J9 l hL ht (Nat.le_of_not_lt h0) (Nat.le_of_not_lt h1) (Nat.le_of_not_lt h2) h3
     ·exact Jh l hL ht (Nat.le_of_not_lt h0) (Nat.le_of_not_lt h1) (Nat.le_of_not_lt h2) (Nat.le_of_not_lt h3)
 ·obtain ⟨⟨hL, ht⟩, ⟨h0, h1, h2, h3⟩, hr⟩ := hc
  exact Vm l hL ht h0 h1 h2 h3 ⟨tG _ _ _, hr⟩
 ·obtain ⟨⟨hL, ht⟩, ⟨h0, h1, h2, h3⟩, hr, hg⟩ := hc
  exact Wy l hL ht h0 h1 h2 h3 ⟨tG _ _ _, hr, hg⟩
 ·obtain ⟨⟨hL, ht⟩, ⟨h0, h1, h2, h3⟩, hr, hg⟩ := hc
  exact Th l hL ht h0 h1 h2 h3 ⟨tG _ _ _, hr, hg⟩
end Go.Proofs.YtokjhbmmdmeafaaGreat
set_option linter.unusedSimpArgs false
set_option linter.unusedVariables false
namespace Go.Proofs.YtokjhbmmdmeafaaGreat
open Go.Ev Go.RowKit
open Tryz
theorem Gives.same {P : Program} {f : FuncId} {xs : List XV} {a b : List Ch} {r : AV} (h : Gives P f xs (.tp [.ag a, r])) (e : AV.val? (.tp [.ag a, r]) = AV.val? (.tp [.ag b, r])) : Gives P f xs (.tp [.ag b, r]) := by
 obtain ⟨v, h1, h2⟩ := h
 exact ⟨v, e ▸ h1, h2⟩
def th (l : LU0) : Prop := (l.length = 48 /\ pO l = 6) ∨ (l.length = 96 /\ pO l = 2)
instance (l : LU0) : Decidable (th l) := inferInstanceAs (Decidable (_ ∨ _))
def gx1 (l : LU0) : Fin Pp := if th l then 0 else ofP (nX l)
def gy1 (l : LU0) : Fin Pp := if th l then 0 else if l.length = 48 then sy1 (tx (ofP (nX l))) (decide (pO l = 5)) else ofP (nY l)
def ok1 (l : LU0) : Prop :=
 (th l /\ sP (pJ l)) ∨ (sh1 l /\ nX l < Pp /\ sqP (tx (ofP (nX l))) /\ q7 ((ofP (nX l)).val, (sy1 (tx (ofP (nX l))) (decide (pO l = 5))).val, false)) ∨
  (lo1 l /\ (nX l < Pp /\ nY l < Pp) /\ may1 ((ofP (nX l)).val, (ofP (nY l)).val, false) /\ q7 ((ofP (nX l)).val, (ofP (nY l)).val, false))
def z13 : List Ch := [.c (.int .u64 0), .c (.int .u64 0), .c (.int .u64 0), .c (.int .u64 0), .c (.int .u64 0), .c (.int .u64 0), .c (.int .u64 0), .c (.int .u64 0), .c (.int .u64 0), .c (.int .u64 0), .c (.int .u64 0), .c (.int .u64 0), .c (.bool false)]
def cd1 (l : LU0) (k : Int) : Prop := k ≠ 0 /\ Gives prog 27 [.t (.v (.string (ofL l)))] (.tp [.ag z13, vi0 k])
theorem at1 (l : LU0) (i : Nat) {c : Option Prop} {r : AV} (h : (altG1 l)[i]? = some (c, r)) (hc : c.getD True) : Gives prog 27 [.t (.v (.string (ofL l)))] r := TZ l c r (List.mem_of_getElem? h) hc
theorem form1 {l : LU0} (h0 : ¬ (l.length ≠ 48 /\ l.length ≠ 96)) (hs : ¬ ((l.length = 48 /\ pO l ≠ 4 /\ pO l ≠ 5 /\ pO l ≠ 6) ∨ (l.length = 96 /\ pO l ≠ 0 /\ pO l ≠ 2))) (hi : ¬ th l) : sh1 l ∨ lo1 l := by
 unfold sh1 lo1
 unfold th at hi
 omega
theorem s6 {l : LU0} (h : sh1 l) : ¬ th l := by unfold th; unfold sh1 at h; omega
theorem s7 {l : LU0} (h : lo1 l) : ¬ th l := by unfold th; unfold lo1 at h; omega
theorem Wm : AV.val? (.tp [.ag [.c (.int .u64 0), .c (.int .u64 0), .c (.int .u64 0), .c (.int .u64 0), .c (.int .u64 0), .c (.int .u64 0), .c (.int .u64 0), .c (.int .u64 0), .c (.int .u64 0), .c (.int .u64 0), .c (.int .u64 0), .c (.int .u64 0), .c (.bool true)], vi0 0]) = AV.val? (.tp [.ag [.q 0, .q 0, .c (.bool true)], vi0 0]) := rfl
theorem aem (l : LU0) (h : ok1 l) : Gives prog 27 [.t (.v (.string (ofL l)))] (.tp [.ag [.q (gx1 l), .q (gy1 l), .c (.bool (decide (th l)))], vi0 0]) := by
 rcases h with ⟨hi, hz⟩ | ⟨s, h⟩ | ⟨s, h⟩
 ·rw [show gx1 l = 0 from if_pos hi, show gy1 l = 0 from if_pos hi, show decide (th l) = true from decide_eq_true hi]
  exact Gives.same (at1 l 3 rfl ⟨hi, hz⟩) Wm
 ·rw [show gx1 l = _ from if_neg (s6 s), show gy1 l = _ from if_neg (s6 s), show decide (th l) = false from decide_eq_false (s6 s), if_pos s.1]
  exact at1 l 7 rfl ⟨s, h⟩
 ·rw [show gx1 l = _ from if_neg (s7 s), show gy1 l = _ from if_neg (s7 s), show decide (th l) = false from decide_eq_false (s7 s), if_neg (by have := s.1; omega)]
  exact at1 l 11 rfl ⟨s, h⟩
theorem X6 {a : Fin Pp} (ha : sqP a) (h0 : a ≠ 0) (b : Bool) : decide (hiP (sy1 a b)) = b := by
 have hn : lowP (rtP a) ≠ 0 := fun e => h0 (by
  have h1 := AN (rtP a)
  rw [e, show rtP a * rtP a = a from ha] at h1
  rw [← h1]; decide)
 cases b with
 | false => exact decide_eq_false (DC _)
 | true => exact decide_eq_true ((FM hn).2 (DC _))
theorem Nm {X t h : Fin Pp} (e : X * X * X + t * t = 0) (eh : t * h = 1) : (X * X * h) * (X * X * h) * (X * X * h) = t := by
 have h1 : X * X * X = -(t * t) := by grind
 have h2 : (X * X * h) * (X * X * h) * (X * X * h) = (X * X * X) * (X * X * X) * (h * h * h) := by grind
 rw [h2, h1]
 have h3 : -(t * t) * -(t * t) * (h * h * h) = t * (t * h) * (t * h) * (t * h) := by grind
 rw [h3, eh]; grind
theorem Wn (X : Fin Pp) : tx X ≠ 0 := fun e => by
 have e2 : X * X * X + ofP (2 % 18446744073709551616) * ofP (2 % 18446744073709551616) = 0 := e
 exact Md (Nm e2 zL)
theorem Ux : b1 0 = List.replicate 48 0 := by decide +kernel
theorem hi0 : decide (hiP 0) = false := decide_eq_false xo
theorem Vs : ∀ b : Fin 256, UInt8.ofNat (bits BinOp.or IntKind.u8 (((UInt8.ofNat (b.val % 32)).toNat : Nat) : Int) ((32 * (b.val / 32) : Nat) : Int)).toNat = UInt8.ofNat b.val := by decide +kernel
theorem Ih (l : LU0) : yP (pJ l) ((32 * pO l : Nat) : Int) = l := by
 match l with
 | [] => rfl
 | b :: r =>
  show UInt8.ofNat (bits BinOp.or IntKind.u8 (((UInt8.ofNat (b.toNat % 32)).toNat : Nat) : Int) ((32 * (b.toNat / 32) : Nat) : Int)).toNat :: r = b :: r
  rw [Vs ⟨b.toNat, UInt8.toNat_lt b⟩]
  simp
theorem z4 {x y : Fin Pp} {i s : Bool} {l : LU0} (hb : pJ l = body1 x y s) (hf : vg i (decide (hiP y)) s = ((32 * pO l : Nat) : Int)) : zP x y i s = l := by
 have e : zP x y i s = yP (body1 x y s) (vg i (decide (hiP y)) s) := rfl
 rw [e, ← hb, hf, Ih]
theorem Ae {l : LU0} {n : Nat} (h : sP (pJ l)) (hl : l.length = n) : pJ l = List.replicate n 0 := List.eq_replicate_iff.2 ⟨(pP l).trans hl, h⟩
theorem zB {x : Nat} {l : LU0} (hl : l.length = 48) (hx : x < Pp) (e : x = deN 48 l) : b1 (ofP x) = l := by
 have e1 : (ofP x).val = x := Nat.mod_eq_of_lt hx
 unfold b1
 rw [e1, e]
 exact Xz hl
theorem IA {l : LU0} (h : l.length = 96) : pJ l = (pJ l).take 48 ++ ((pJ l).drop 48).take 48 := by
 rw [List.take_of_length_le (l := (pJ l).drop 48) (by rw [List.length_drop, pP, h]; decide), List.take_append_drop]
theorem OG : (wY (1, 1, 0) Rr 64).2.2 = 0 := by decide +kernel
theorem QB (x y : Nat) : q7 (x, y, true) := by
 unfold q7
 rw [show in1 (x, y, true) = (1, 1, 0) from if_pos rfl]
 exact OG
theorem XN (l : LU0) (h : ok1 l) : may1 ((gx1 l).val, (gy1 l).val, decide (th l)) /\ q7 ((gx1 l).val, (gy1 l).val, decide (th l)) /\ (l.length = 48 ∨ l.length = 96) /\ zP (gx1 l) (gy1 l) (decide (th l)) (decide (l.length = 48)) = l := by
 rcases h with ⟨hi, hz⟩ | ⟨s, h, hq, hg⟩ | ⟨s, h, hm, hg⟩
 ·rw [show gx1 l = 0 from if_pos hi, show gy1 l = 0 from if_pos hi, show decide (th l) = true from decide_eq_true hi]
  refine ⟨rr0, ?_, ?_, ?_⟩
  ·exact QB _ _
  ·exact hi.imp (·.1) (·.1)
  ·rcases hi with ⟨hl, ht⟩ | ⟨hl, ht⟩
   ·rw [decide_eq_true hl]
    refine z4 ?_ (by rw [hi0, ht]; rfl)
    rw [Ae hz hl]; exact Ux.symm
   ·rw [decide_eq_false (by omega)]
    refine z4 ?_ (by rw [hi0, ht]; rfl)
    rw [Ae hz hl]
    show _ = b1 0 ++ b1 0
    rw [Ux, List.replicate_append_replicate]
 ·rw [show gx1 l = _ from if_neg (s6 s), show gy1 l = _ from if_neg (s6 s), show decide (th l) = false from decide_eq_false (s6 s), if_pos s.1]
  refine ⟨w6 _ _ hq, hg, .inl s.1, ?_⟩
  rw [decide_eq_true s.1]
  refine z4 ?_ ?_
  ·show pJ l = b1 (ofP (nX l))
   rw [zB (l := pJ l) ((pP l).trans s.1) h (by unfold nX; rw [List.take_of_length_le (by rw [pP, s.1]; decide)])]
  ·rw [X6 hq (Wn _)]
   rcases s.2 with e | e <;> rw [e] <;> rfl
 ·rw [show gx1 l = _ from if_neg (s7 s), show gy1 l = _ from if_neg (s7 s), show decide (th l) = false from decide_eq_false (s7 s), if_neg (by have := s.1; omega)]
  refine ⟨hm, hg, .inr s.1, ?_⟩
  rw [decide_eq_false (by have := s.1; omega)]
  refine z4 ?_ ?_
  ·show pJ l = b1 (ofP (nX l)) ++ b1 (ofP (nY l))
   rw [zB (l := (pJ l).take 48) (by rw [List.length_take, pP, s.1]; rfl) h.1 rfl, zB (l := ((pJ l).drop 48).take 48) (by rw [List.length_take, List.length_drop, pP, s.1]; rfl) h.2 rfl]
   exact IA s.1
  ·rw [s.2]; cases decide (hiP (ofP (nY l))) <;> rfl
end Go.Proofs.YtokjhbmmdmeafaaGreat
set_option linter.unusedSimpArgs false
set_option linter.unusedVariables false
namespace Go.Proofs.YtokjhbmmdmeafaaGreat
open Go.Ev Go.RowKit
open Tryz
def ti (l : LU0) : Prop := (l.length = 96 /\ pO l = 6) ∨ (l.length = 192 /\ pO l = 2)
instance (l : LU0) : Decidable (ti l) := inferInstanceAs (Decidable (_ ∨ _))
def xs2 (l : LU0) : F2 := (ofP (c2 l 1), ofP (c2 l 0))
def ys2 (l : LU0) : F2 := (ofP (c2 l 3), ofP (c2 l 2))
def nn (a : F2) : N2 := (a.1.val, a.2.val)
def gx2 (l : LU0) : F2 := if ti l then (0, 0) else xs2 l
def gy2 (l : LU0) : F2 := if ti l then (0, 0) else if l.length = 96 then sy2 (sv (xs2 l)) (decide (pO l = 5)) else ys2 l
def ok2 (l : LU0) : Prop :=
 (ti l /\ sP (pJ l)) ∨ (sh2 l /\ (c2 l 0 < Pp /\ c2 l 1 < Pp) /\ sq2 (sv (xs2 l)) /\ q6 (nn (xs2 l), nn (sy2 (sv (xs2 l)) (decide (pO l = 5))), false)) ∨
  (lo2 l /\ (c2 l 0 < Pp /\ c2 l 1 < Pp /\ c2 l 2 < Pp /\ c2 l 3 < Pp) /\ may2 (nn (xs2 l), nn (ys2 l), false) /\ q6 (nn (xs2 l), nn (ys2 l), false))
def z25 : List Ch := [.c (.int .u64 0), .c (.int .u64 0), .c (.int .u64 0), .c (.int .u64 0), .c (.int .u64 0), .c (.int .u64 0), .c (.int .u64 0), .c (.int .u64 0), .c (.int .u64 0), .c (.int .u64 0), .c (.int .u64 0), .c (.int .u64 0), .c (.int .u64 0), .c (.int .u64 0), .c (.int .u64 0), .c (.int .u64 0), .c (.int .u64 0), .c (.int .u64 0), .c (.int .u64 0), .c (.int .u64 0), .c (.int .u64 0), .c (.int .u64 0), .c (.int .u64 0), .c (.int .u64 0), .c (.bool false)]
def cd2 (l : LU0) (k : Int) : Prop := k ≠ 0 /\ Gives prog 33 [.t (.v (.string (ofL l)))] (.tp [.ag z25, vi0 k])
theorem at2 (l : LU0) (i : Nat) {c : Option Prop} {r : AV} (h : (altG2 l)[i]? = some (c, r)) (hc : c.getD True) : Gives prog 33 [.t (.v (.string (ofL l)))] r := Sb l c r (List.mem_of_getElem? h) hc
theorem form2 {l : LU0} (h0 : ¬ (l.length ≠ 96 /\ l.length ≠ 192)) (hs : ¬ ((l.length = 96 /\ pO l ≠ 4 /\ pO l ≠ 5 /\ pO l ≠ 6) ∨ (l.length = 192 /\ pO l ≠ 0 /\ pO l ≠ 2))) (hi : ¬ ti l) : sh2 l ∨ lo2 l := by
 unfold sh2 lo2
 unfold ti at hi
 omega
theorem sF {l : LU0} (h : sh2 l) : ¬ ti l := by unfold ti; unfold sh2 at h; omega
theorem sG {l : LU0} (h : lo2 l) : ¬ ti l := by unfold ti; unfold lo2 at h; omega
theorem Ve : AV.val? (.tp [.ag [.c (.int .u64 0), .c (.int .u64 0), .c (.int .u64 0), .c (.int .u64 0), .c (.int .u64 0), .c (.int .u64 0), .c (.int .u64 0), .c (.int .u64 0), .c (.int .u64 0), .c (.int .u64 0), .c (.int .u64 0), .c (.int .u64 0), .c (.int .u64 0), .c (.int .u64 0), .c (.int .u64 0), .c (.int .u64 0), .c (.int .u64 0), .c (.int .u64 0), .c (.int .u64 0), .c (.int .u64 0), .c (.int .u64 0), .c (.int .u64 0), .c (.int .u64 0), .c (.int .u64 0), .c (.bool true)], vi0 0]) = AV.val? (.tp [.ag [.q ((0, 0) : F2).1, .q ((0, 0) : F2).2, .q ((0, 0) : F2).1, .q ((0, 0) : F2).2, .c (.bool true)], vi0 0]) := rfl
theorem aeD (l : LU0) (h : ok2 l) : Gives prog 33 [.t (.v (.string (ofL l)))] (.tp [.ag [.q (gx2 l).1, .q (gx2 l).2, .q (gy2 l).1, .q (gy2 l).2, .c (.bool (decide (ti l)))], vi0 0]) := by
 rcases h with ⟨hi, hz⟩ | ⟨s, h⟩ | ⟨s, h⟩
 ·rw [show gx2 l = (0, 0) from if_pos hi, show gy2 l = (0, 0) from if_pos hi, show decide (ti l) = true from decide_eq_true hi]
  exact Gives.same (at2 l 3 rfl ⟨hi, hz⟩) Ve
 ·rw [show gx2 l = _ from if_neg (sF s), show gy2 l = _ from if_neg (sF s), show decide (ti l) = false from decide_eq_false (sF s), if_pos s.1]
  exact at2 l 7 rfl ⟨s, h⟩
 ·rw [show gx2 l = _ from if_neg (sG s), show gy2 l = _ from if_neg (sG s), show decide (ti l) = false from decide_eq_false (sG s), if_neg (by have := s.1; omega)]
  exact at2 l 11 rfl ⟨s, h⟩
theorem ZE {a : F2} (ha : sq2 a) (h0 : a ≠ (0, 0)) (b : Bool) : decide (hi2 (sy2 a b)) = b := by
 have hn : rt2 a ≠ (0, 0) := fun e => h0 (by
  have h1 := Kf ha
  rw [e, Bf] at h1
  exact h1.symm)
 cases b with
 | false => exact decide_eq_false (BC _)
 | true => exact decide_eq_true ((Mf hn).2 (BC _))
theorem E0 {N t h : Fin Pp} (e : N * N * N = t * t * t * t * t) (eh : t * h = 1) : (N * N * h * h * h) * (N * N * h * h * h) * (N * N * h * h * h) = t := by
 have h2 : (N * N * h * h * h) * (N * N * h * h * h) * (N * N * h * h * h) = (N * N * N) * (N * N * N) * (h * h * h * h * h * h * h * h * h) := by grind
 rw [h2, e]
 have h3 : t * t * t * t * t * (t * t * t * t * t) * (h * h * h * h * h * h * h * h * h) = t * ((t * h) * (t * h) * (t * h) * (t * h) * (t * h) * (t * h) * (t * h) * (t * h) * (t * h)) := by grind
 rw [h3, eh]; grind
theorem OJ : tu (r6 (ofP 4, ofP 4)) = ofP (2 % 18446744073709551616) * ofP (2 % 18446744073709551616) * ofP (2 % 18446744073709551616) * ofP (2 % 18446744073709551616) * ofP (2 % 18446744073709551616) := by decide +kernel
theorem Iq {a b : F2} (h : qV a b = (0, 0)) : a = r6 b := by
 have h1 : a.1 + b.1 = 0 := congrArg Prod.fst h
 have h2 : a.2 + b.2 = 0 := congrArg Prod.snd h
 refine vL ?_ ?_
 ·show a.1 = -b.1
  grind
 ·show a.2 = -b.2
  grind
theorem Vi (X : F2) : sv X ≠ (0, 0) := fun e => by
 have e1 : pZ (pZ X X) X = r6 (ofP 4, ofP 4) := Iq e
 have e2 : tu X * tu X * tu X = _ := (by rw [← Ew, ← Ew, e1] : tu X * tu X * tu X = tu (r6 (ofP 4, ofP 4))).trans OJ
 exact Md (E0 e2 zL)
theorem abf : decide (hi2 (0, 0)) = false := decide_eq_false Ah
theorem XD (x : F2) : of2 (nn x) = x := Cy x
theorem Ab {x y : F2} {i s : Bool} {l : LU0} (hb : pJ l = body2 x y s) (hf : vg i (decide (hi2 y)) s = ((32 * pO l : Nat) : Int)) : z3 x y i s = l := by
 have e : z3 x y i s = yP (body2 x y s) (vg i (decide (hi2 y)) s) := rfl
 rw [e, ← hb, hf, Ih]
theorem MS {l : LU0} (h : l.length = 192) : pJ l = ((pJ l).take 48 ++ ((pJ l).drop 48).take 48) ++ ((((pJ l).drop 48).drop 48).take 48 ++ ((((pJ l).drop 48).drop 48).drop 48).take 48) := by
 rw [List.take_of_length_le (l := (((pJ l).drop 48).drop 48).drop 48) (by rw [List.length_drop, List.length_drop, List.length_drop, pP, h]; decide), List.take_append_drop, List.append_assoc, List.take_append_drop, List.take_append_drop]
theorem M5 : q6 ((0, 0), (0, 0), true) := by unfold q6; decide +kernel
theorem Xx (l : LU0) (h : ok2 l) : may2 (nn (gx2 l), nn (gy2 l), decide (ti l)) /\ q6 (nn (gx2 l), nn (gy2 l), decide (ti l)) /\ (l.length = 96 ∨ l.length = 192) /\ z3 (gx2 l) (gy2 l) (decide (ti l)) (decide (l.length = 96)) = l := by
 rcases h with ⟨hi, hz⟩ | ⟨s, h, hq, hg⟩ | ⟨s, h, hm, hg⟩
 ·rw [show gx2 l = (0, 0) from if_pos hi, show gy2 l = (0, 0) from if_pos hi, show decide (ti l) = true from decide_eq_true hi]
  refine ⟨rr0, ?_, ?_, ?_⟩
  ·exact M5
  ·exact hi.imp (·.1) (·.1)
  ·rcases hi with ⟨hl, ht⟩ | ⟨hl, ht⟩
   ·rw [decide_eq_true hl]
    refine Ab ?_ (by rw [abf, ht]; rfl)
    rw [Ae hz hl]
    show _ = b1 0 ++ b1 0
    rw [Ux, List.replicate_append_replicate]
   ·rw [decide_eq_false (by omega)]
    refine Ab ?_ (by rw [abf, ht]; rfl)
    rw [Ae hz hl]
    show _ = (b1 0 ++ b1 0) ++ (b1 0 ++ b1 0)
    rw [Ux, List.replicate_append_replicate, List.replicate_append_replicate]
 ·rw [show gx2 l = _ from if_neg (sF s), show gy2 l = _ from if_neg (sF s), show decide (ti l) = false from decide_eq_false (sF s), if_pos s.1]
  refine ⟨vX _ _ hq, hg, .inl s.1, ?_⟩
  rw [decide_eq_true s.1]
  refine Ab ?_ ?_
  ·show pJ l = b1 (ofP (c2 l 0)) ++ b1 (ofP (c2 l 1))
   rw [zB (l := (pJ l).take 48) (by rw [List.length_take, pP, s.1]; rfl) h.1 rfl, zB (l := ((pJ l).drop 48).take 48) (by rw [List.length_take, List.length_drop, pP, s.1]; rfl) h.2 rfl]
   exact IA s.1
  ·rw [ZE hq (Vi _)]
   rcases s.2 with e | e <;> rw [e] <;> rfl
 ·rw [show gx2 l = _ from if_neg (sG s), show gy2 l = _ from if_neg (sG s), show decide (ti l) = false from decide_eq_false (sG s), if_neg (by have := s.1; omega)]
  refine ⟨hm, hg, .inr s.1, ?_⟩
  rw [decide_eq_false (by have := s.1; omega)]
  refine Ab ?_ ?_
  ·show pJ l = (b1 (ofP (c2 l 0)) ++ b1 (ofP (c2 l 1))) ++ (b1 (ofP (c2 l 2)) ++ b1 (ofP (c2 l 3)))
   rw [zB (l := (pJ l).take 48) (by rw [List.length_take, pP, s.1]; rfl) h.1 rfl, zB (l := ((pJ l).drop 48).take 48) (by rw [List.length_take, List.length_drop, pP, s.1]; rfl) h.2.1 rfl,
    zB (l := (((pJ l).drop 48).drop 48).take 48) (by rw [List.length_take, List.length_drop, List.length_drop, pP, s.1]; rfl) h.2.2.1 rfl, zB (l := ((((pJ l).drop 48).drop 48).drop 48).take 48) (by rw [List.length_take, List.length_drop, List.length_drop, List.length_drop, pP, s.1]; rfl) h.2.2.2 rfl]
   exact MS s.1
  ·rw [s.2]; cases decide (hi2 (ys2 l)) <;> rfl
end Go.Proofs.YtokjhbmmdmeafaaGreat
