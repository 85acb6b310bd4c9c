/- Pruned: Gd. -/
import Derived.Test.YtokjhbmmdmeafaaGreatQGe
import Derived.Test.YtokjhbmmdmeafaaGreatQGc
import Derived.Test.YtokjhbmmdmeafaaGreatQGb
import Derived.Test.YtokjhbmmdmeafaaGreatQHa
set_option linter.unusedSimpArgs false
set_option linter.unusedVariables false
namespace Go.Proofs.YtokjhbmmdmeafaaGreat
open Go.Ev Go.RowKit
open Tryz
def c2 (l : LU0) (i : Nat) : Nat := match i with
 | 0 => deN 48 ((pY l).take 48)
 | 1 => deN 48 (((pY l).drop 48).take 48)
 | 2 => deN 48 ((((pY l).drop 48).drop 48).take 48)
 | _ => deN 48 (((((pY l).drop 48).drop 48).drop 48).take 48)
def sy2 (a : F2) (high : Bool) : F2 := match high with | true => sj (rt2 a) | false => rt2 a
abbrev Eo : List Ch := [.c (.int .u64 0), .c (.int .u64 0), .c (.int .u64 0), .c (.int .u64 0), .c (.int .u64 0), .c (.int .u64 0), .c (.int .u64 0), .c (.int .u64 0), .c (.int .u64 0), .c (.int .u64 0), .c (.int .u64 0), .c (.int .u64 0), .c (.int .u64 0), .c (.int .u64 0), .c (.int .u64 0), .c (.int .u64 0), .c (.int .u64 0), .c (.int .u64 0), .c (.int .u64 0), .c (.int .u64 0), .c (.int .u64 0), .c (.int .u64 0), .c (.int .u64 0), .c (.int .u64 0), .c (.bool false)]
abbrev qC (l : LU0) : List XV := [.t (.v (.string (ofL l)))]
theorem qD {a : List XV} {r : AV} {b : Prop} (o : LO0) (hb : b) (h : fnA prog (qO _) [RZ, C7, A5, r8, tc, tO, JW, Em, zU, Bh, GU] 2 (oL o) f33 a = some (r, b) := by kernel_rfl) (hv : ∃ v, r.val? = some v := by exact ⟨_, rfl⟩) : Gives prog 33 a r := p6 (P := prog) (X := qO _) (env := [RZ, C7, A5, r8, tc, tO, JW, Em, zU, Bh, GU]) ⟨Ov, EQ, uo, qX, rk, qK, NI, zW, uZ, xS, H2, tt0⟩ func33 2 (oL o) h hv hb
theorem S7 (l : LU0) (h : l.length ≠ 96 /\ l.length ≠ 192) : Gives prog 33 (qC l) (.tp [.ag Eo, vi0 3]) :=
 qD [(3, wO 0)] (ai (show l.length ≠ 96 /\ l.length ≠ 192 from h) tt0)
theorem Qp (l : LU0) (h : (l.length = 96 /\ p7 l ≠ 4 /\ p7 l ≠ 5 /\ p7 l ≠ 6) ∨ (l.length = 192 /\ p7 l ≠ 0 /\ p7 l ≠ 2)) : Gives prog 33 (qC l) (.tp [.ag Eo, vi0 32]) :=
 qD [(3, wO 1)] (ai (show (l.length = 96 /\ p7 l ≠ 4 /\ p7 l ≠ 5 /\ p7 l ≠ 6) ∨ (l.length = 192 /\ p7 l ≠ 0 /\ p7 l ≠ 2) from h) tt0)
theorem PR (l : LU0) (h : ((l.length = 96 /\ p7 l = 6) ∨ (l.length = 192 /\ p7 l = 2)) /\ ¬ te (pY l)) : Gives prog 33 (qC l) (.tp [.ag Eo, vi0 33]) :=
 qD [(3, wO 2)] (ai (show ((l.length = 96 /\ p7 l = 6) ∨ (l.length = 192 /\ p7 l = 2)) /\ ¬ te (pY l) from h) tt0)
abbrev RR : AV := .tp [.ag [.c (.int .u64 0), .c (.int .u64 0), .c (.int .u64 0), .c (.int .u64 0), .c (.int .u64 0), .c (.int .u64 0), .c (.int .u64 0), .c (.int .u64 0), .c (.int .u64 0), .c (.int .u64 0), .c (.int .u64 0), .c (.int .u64 0), .c (.int .u64 0), .c (.int .u64 0), .c (.int .u64 0), .c (.int .u64 0), .c (.int .u64 0), .c (.int .u64 0), .c (.int .u64 0), .c (.int .u64 0), .c (.int .u64 0), .c (.int .u64 0), .c (.int .u64 0), .c (.int .u64 0), .c (.bool true)], vi0 0]
theorem Th (l : LU0) (h : (l.length = 96 /\ p7 l = 6) /\ te (pY l)) : Gives prog 33 (qC l) RR :=
 qD [(3, wO 6)] (ai (show (l.length = 96 /\ p7 l = 6) /\ te (pY l) from h) tt0)
theorem TX (l : LU0) (h : (l.length = 192 /\ p7 l = 2) /\ te (pY l)) : Gives prog 33 (qC l) RR :=
 qD [(3, wO 7)] (ai (show (l.length = 192 /\ p7 l = 2) /\ te (pY l) from h) tt0)
theorem Bw (l : LU0) (hL : l.length = 96) : (((ofL (((pY l).drop 48).drop 48)).size : Nat) : Int) = ((0 : Nat) : Int) := by rw [show (ofL (((pY l).drop 48).drop 48)).size = 0 from (show ((((pY l).drop 48).drop 48)).length = 0 from by simp [qd, hL])]
theorem xa (l : LU0) (hL : l.length = 96) : (0 : Int) <= 48 /\ (48 : Int) <= (ofL ((pY l).drop 48)).size := ⟨by decide, by rw [show (ofL ((pY l).drop 48)).size = 48 from (show (((pY l).drop 48)).length = 48 from by simp [qd, hL])]; decide⟩
theorem Lu (l : LU0) (hL : l.length = 96) (h1 : c2 l 1 < 4002409555221667393417789825735904156556882819939007885332058136124031650490837864442687629129015664037894272559787) : (((pY l).drop 48).take 48).length = 48 /\ deN 48 (((pY l).drop 48).take 48) < 4002409555221667393417789825735904156556882819939007885332058136124031650490837864442687629129015664037894272559787 := ⟨by simp [qd, hL], h1⟩
theorem K4 (l : LU0) (hL : l.length = 96) : (((ofL ((pY l).drop 48)).size : Nat) : Int) = ((48 : Nat) : Int) := by rw [show (ofL ((pY l).drop 48)).size = 48 from (show (((pY l).drop 48)).length = 48 from by simp [qd, hL])]
theorem Bp (l : LU0) (hL : l.length = 96) : (0 : Int) <= 48 /\ (48 : Int) <= (ofL (pY l)).size := ⟨by decide, by rw [show (ofL (pY l)).size = 96 from (show ((pY l)).length = 96 from by simp [qd, hL])]; decide⟩
theorem V9 (l : LU0) (hL : l.length = 96) (h0 : c2 l 0 < 4002409555221667393417789825735904156556882819939007885332058136124031650490837864442687629129015664037894272559787) : ((pY l).take 48).length = 48 /\ deN 48 ((pY l).take 48) < 4002409555221667393417789825735904156556882819939007885332058136124031650490837864442687629129015664037894272559787 := ⟨by simp [qd, hL], h0⟩
theorem LD (l : LU0) (hL : l.length = 96) : (((ofL (pY l)).size : Nat) : Int) = ((96 : Nat) : Int) := by rw [show (ofL (pY l)).size = 96 from (show ((pY l)).length = 96 from by simp [qd, hL])]
theorem Ws (l : LU0) (hL : l.length = 96) (ht : p7 l = 4) : l.length = 96 /\ p7 l = 4 := ⟨hL, ht⟩
abbrev zN (l : LU0) := ((ofP (deN 48 (((pY l).drop 48).take 48)), ofP (deN 48 ((pY l).take 48))) : F2)
abbrev xg (l : LU0) := q6 (qh (qh (zN l) (zN l)) (zN l)) (ofP (4 % 18446744073709551616), ofP (4 % 18446744073709551616))
abbrev sX (l : LU0) : Prop := c2 l 1 < 4002409555221667393417789825735904156556882819939007885332058136124031650490837864442687629129015664037894272559787
abbrev sn (l : LU0) : Prop := c2 l 0 < 4002409555221667393417789825735904156556882819939007885332058136124031650490837864442687629129015664037894272559787
def vW : Ora := { ch := 1, hi := fun _ => 96 }
def tb : Ora := { ch := 1, hi := fun _ => 48 }
def sK : Ora := { ch := 1, hi := fun _ => 0 }
def OW {l : LU0} (hL : l.length = 96) (ht : p7 l = 4) (h0 : sn l) := PLift.up (ai (xa l hL) (ai (K4 l hL) (ai (Bp l hL) (ai (V9 l hL h0) (ai (Bp l hL) (ai (LD l hL) (ai (Ws l hL ht) tt0)))))))
def JR {l : LU0} (hL : l.length = 96) (ht : p7 l = 4) (h0 : sn l) (h1 : sX l) := PLift.up (ai (Bw l hL) (ai (xa l hL) (ai (Lu l hL h1)
   (OW hL ht h0).down)))
abbrev JX : AV := .tp [.ag Eo, vi0 30]
def JI : LO0 := [(3, wO 3), (29, vW), (36, rO 5 0), (37, wO 1), (45, rO 5 0), (57, tb), (64, rO 5 0), (65, wO 1), (73, rO 5 0), (85, sK)]
theorem OR (l : LU0) (hL : l.length = 96) (ht : p7 l = 4) (h0 : sn l) (h1 : sX l) (hq : ¬ sq2 (xg l)) : Gives prog 33 (qC l) JX :=
 qD (JI ++ [(129, wO 1)]) (ai (show ¬ sq2 (xg l) from hq)
   (JR hL ht h0 h1).down)
theorem K3 (l : LU0) (hq : sq2 (q6 (qh (qh ((ofP (deN 48 (((pY l).drop 48).take 48)), ofP (deN 48 ((pY l).take 48))) : F2) ((ofP (deN 48 (((pY l).drop 48).take 48)), ofP (deN 48 ((pY l).take 48))) : F2)) ((ofP (deN 48 (((pY l).drop 48).take 48)), ofP (deN 48 ((pY l).take 48))) : F2)) (ofP (4 % 18446744073709551616), ofP (4 % 18446744073709551616)))) : sq2 (q6 (qh (qh ((ofP (deN 48 (((pY l).drop 48).take 48)), ofP (deN 48 ((pY l).take 48))) : F2) ((ofP (deN 48 (((pY l).drop 48).take 48)), ofP (deN 48 ((pY l).take 48))) : F2)) ((ofP (deN 48 (((pY l).drop 48).take 48)), ofP (deN 48 ((pY l).take 48))) : F2)) (ofP (4 % 18446744073709551616), ofP (4 % 18446744073709551616))) := hq
abbrev td (l : LU0) := (((zN l).1.val, (zN l).2.val), ((rt2 (xg l)).1.val, (rt2 (xg l)).2.val), false)
abbrev IS : AV := .tp [.ag Eo, vi0 31]
theorem QW (l : LU0) (hL : l.length = 96) (ht : p7 l = 4) (h0 : sn l) (h1 : sX l) (hq : sq2 (xg l)) (hg : sml2 (td l) /\ may2 (td l) /\ ¬ rm (td l)) : Gives prog 33 (qC l) IS :=
 qD (JI ++ [(129, wO 0), (146, wO 0), (150, wO 1)]) (ai (show sml2 (td l) /\ may2 (td l) /\ ¬ rm (td l) from hg) (ai (show sml2 (td l) /\ may2 (td l) from ⟨hg.1, hg.2.1⟩) (ai (K3 l hq)
   (JR hL ht h0 h1).down)))
theorem L0 (l : LU0) (hL : l.length = 96) (ht : p7 l = 4) (h0 : sn l) (h1 : sX l) (hq : sq2 (xg l)) (hg : sml2 (td l) /\ may2 (td l) /\ rm (td l)) : Gives prog 33 (qC l) (.tp [.ag [.q ((ofP (deN 48 (((pY l).drop 48).take 48)), ofP (deN 48 ((pY l).take 48))) : F2).1, .q ((ofP (deN 48 (((pY l).drop 48).take 48)), ofP (deN 48 ((pY l).take 48))) : F2).2, .q (rt2 (q6 (qh (qh ((ofP (deN 48 (((pY l).drop 48).take 48)), ofP (deN 48 ((pY l).take 48))) : F2) ((ofP (deN 48 (((pY l).drop 48).take 48)), ofP (deN 48 ((pY l).take 48))) : F2)) ((ofP (deN 48 (((pY l).drop 48).take 48)), ofP (deN 48 ((pY l).take 48))) : F2)) (ofP (4 % 18446744073709551616), ofP (4 % 18446744073709551616)))).1, .q (rt2 (q6 (qh (qh ((ofP (deN 48 (((pY l).drop 48).take 48)), ofP (deN 48 ((pY l).take 48))) : F2) ((ofP (deN 48 (((pY l).drop 48).take 48)), ofP (deN 48 ((pY l).take 48))) : F2)) ((ofP (deN 48 (((pY l).drop 48).take 48)), ofP (deN 48 ((pY l).take 48))) : F2)) (ofP (4 % 18446744073709551616), ofP (4 % 18446744073709551616)))).2, .c (.bool false)], vi0 0]) :=
 qD (JI ++ [(129, wO 0), (146, wO 0), (150, wO 0)]) (ai (show sml2 (td l) /\ may2 (td l) /\ rm (td l) from hg) (ai (show sml2 (td l) /\ may2 (td l) from ⟨hg.1, hg.2.1⟩) (ai (K3 l hq)
   (JR hL ht h0 h1).down)))
theorem Lj (l : LU0) (hL : l.length = 96) (h1 : 4002409555221667393417789825735904156556882819939007885332058136124031650490837864442687629129015664037894272559787 <= c2 l 1) : (((pY l).drop 48).take 48).length = 48 /\ 4002409555221667393417789825735904156556882819939007885332058136124031650490837864442687629129015664037894272559787 <= deN 48 (((pY l).drop 48).take 48) := ⟨by simp [qd, hL], h1⟩
abbrev vv (l : LU0) : Prop := 4002409555221667393417789825735904156556882819939007885332058136124031650490837864442687629129015664037894272559787 <= c2 l 1
abbrev rX : AV := .tp [.ag Eo, vi0 20]
theorem J2 (l : LU0) (hL : l.length = 96) (ht : p7 l = 4) (h0 : sn l) (h1 : vv l) : Gives prog 33 (qC l) rX :=
 qD [(3, wO 3), (29, vW), (36, rO 5 0), (37, wO 1), (45, rO 5 0), (57, tb), (64, rO 5 0), (65, wO 2), (73, rO 5 0), (85, sK)] (ai (Bw l hL) (ai (xa l hL) (ai (Lj l hL h1)
   (OW hL ht h0).down)))
theorem Sx (l : LU0) (hL : l.length = 96) (h0 : 4002409555221667393417789825735904156556882819939007885332058136124031650490837864442687629129015664037894272559787 <= c2 l 0) : ((pY l).take 48).length = 48 /\ 4002409555221667393417789825735904156556882819939007885332058136124031650490837864442687629129015664037894272559787 <= deN 48 ((pY l).take 48) := ⟨by simp [qd, hL], h0⟩
abbrev ta (l : LU0) : Prop := 4002409555221667393417789825735904156556882819939007885332058136124031650490837864442687629129015664037894272559787 <= c2 l 0
def OI {l : LU0} (hL : l.length = 96) (ht : p7 l = 4) (h0 : ta l) := PLift.up (ai (xa l hL) (ai (K4 l hL) (ai (Bp l hL) (ai (Sx l hL h0) (ai (Bp l hL) (ai (LD l hL) (ai (Ws l hL ht) tt0)))))))
def Q9 : LO0 := [(3, wO 3), (29, vW), (36, rO 5 0), (37, wO 2), (45, rO 5 0), (57, tb), (64, rO 5 0)]
theorem Ju (l : LU0) (hL : l.length = 96) (ht : p7 l = 4) (h0 : ta l) (h1 : sX l) : Gives prog 33 (qC l) rX :=
 qD (Q9 ++ [(65, wO 1), (73, rO 5 0), (83, sK)]) (ai (Bw l hL) (ai (xa l hL) (ai (Lu l hL h1)
   (OI hL ht h0).down)))
theorem JE (l : LU0) (hL : l.length = 96) (ht : p7 l = 4) (h0 : ta l) (h1 : vv l) : Gives prog 33 (qC l) rX :=
 qD (Q9 ++ [(65, wO 2), (73, rO 5 0), (83, sK)]) (ai (Bw l hL) (ai (xa l hL) (ai (Lj l hL h1)
   (OI hL ht h0).down)))
theorem PJ (l : LU0) (hL : l.length = 96) (ht : p7 l = 5) : l.length = 96 /\ p7 l = 5 := ⟨hL, ht⟩
def SE {l : LU0} (hL : l.length = 96) (ht : p7 l = 5) (h0 : sn l) := PLift.up (ai (xa l hL) (ai (K4 l hL) (ai (Bp l hL) (ai (V9 l hL h0) (ai (Bp l hL) (ai (LD l hL) (ai (PJ l hL ht) tt0)))))))
def JT {l : LU0} (hL : l.length = 96) (ht : p7 l = 5) (h0 : sn l) (h1 : sX l) := PLift.up (ai (Bw l hL) (ai (xa l hL) (ai (Lu l hL h1)
   (SE hL ht h0).down)))
def Kk : LO0 := [(3, wO 4), (29, vW), (36, rO 5 0), (37, wO 1), (45, rO 5 0), (57, tb), (64, rO 5 0), (65, wO 1), (73, rO 5 0), (85, sK)]
theorem RE (l : LU0) (hL : l.length = 96) (ht : p7 l = 5) (h0 : sn l) (h1 : sX l) (hq : ¬ sq2 (xg l)) : Gives prog 33 (qC l) JX :=
 qD (Kk ++ [(129, wO 1)]) (ai (show ¬ sq2 (xg l) from hq)
   (JT hL ht h0 h1).down)
abbrev uJ (l : LU0) := (((zN l).1.val, (zN l).2.val), ((sj (rt2 (xg l))).1.val, (sj (rt2 (xg l))).2.val), false)
theorem OS (l : LU0) (hL : l.length = 96) (ht : p7 l = 5) (h0 : sn l) (h1 : sX l) (hq : sq2 (xg l)) (hg : sml2 (uJ l) /\ may2 (uJ l) /\ ¬ rm (uJ l)) : Gives prog 33 (qC l) IS :=
 qD (Kk ++ [(129, wO 0), (149, wO 0), (153, wO 1)]) (ai (show sml2 (uJ l) /\ may2 (uJ l) /\ ¬ rm (uJ l) from hg) (ai (show sml2 (uJ l) /\ may2 (uJ l) from ⟨hg.1, hg.2.1⟩) (ai (K3 l hq)
   (JT hL ht h0 h1).down)))
theorem MT (l : LU0) (hL : l.length = 96) (ht : p7 l = 5) (h0 : sn l) (h1 : sX l) (hq : sq2 (xg l)) (hg : sml2 (uJ l) /\ may2 (uJ l) /\ rm (uJ l)) : Gives prog 33 (qC l) (.tp [.ag [.q ((ofP (deN 48 (((pY l).drop 48).take 48)), ofP (deN 48 ((pY l).take 48))) : F2).1, .q ((ofP (deN 48 (((pY l).drop 48).take 48)), ofP (deN 48 ((pY l).take 48))) : F2).2, .q (sj (rt2 (q6 (qh (qh ((ofP (deN 48 (((pY l).drop 48).take 48)), ofP (deN 48 ((pY l).take 48))) : F2) ((ofP (deN 48 (((pY l).drop 48).take 48)), ofP (deN 48 ((pY l).take 48))) : F2)) ((ofP (deN 48 (((pY l).drop 48).take 48)), ofP (deN 48 ((pY l).take 48))) : F2)) (ofP (4 % 18446744073709551616), ofP (4 % 18446744073709551616))))).1, .q (sj (rt2 (q6 (qh (qh ((ofP (deN 48 (((pY l).drop 48).take 48)), ofP (deN 48 ((pY l).take 48))) : F2) ((ofP (deN 48 (((pY l).drop 48).take 48)), ofP (deN 48 ((pY l).take 48))) : F2)) ((ofP (deN 48 (((pY l).drop 48).take 48)), ofP (deN 48 ((pY l).take 48))) : F2)) (ofP (4 % 18446744073709551616), ofP (4 % 18446744073709551616))))).2, .c (.bool false)], vi0 0]) :=
 qD (Kk ++ [(129, wO 0), (149, wO 0), (153, wO 0)]) (ai (show sml2 (uJ l) /\ may2 (uJ l) /\ rm (uJ l) from hg) (ai (show sml2 (uJ l) /\ may2 (uJ l) from ⟨hg.1, hg.2.1⟩) (ai (K3 l hq)
   (JT hL ht h0 h1).down)))
theorem IF (l : LU0) (hL : l.length = 96) (ht : p7 l = 5) (h0 : sn l) (h1 : vv l) : Gives prog 33 (qC l) rX :=
 qD [(3, wO 4), (29, vW), (36, rO 5 0), (37, wO 1), (45, rO 5 0), (57, tb), (64, rO 5 0), (65, wO 2), (73, rO 5 0), (85, sK)] (ai (Bw l hL) (ai (xa l hL) (ai (Lj l hL h1)
   (SE hL ht h0).down)))
def P6 {l : LU0} (hL : l.length = 96) (ht : p7 l = 5) (h0 : ta l) := PLift.up (ai (xa l hL) (ai (K4 l hL) (ai (Bp l hL) (ai (Sx l hL h0) (ai (Bp l hL) (ai (LD l hL) (ai (PJ l hL ht) tt0)))))))
def QD : LO0 := [(3, wO 4), (29, vW), (36, rO 5 0), (37, wO 2), (45, rO 5 0), (57, tb), (64, rO 5 0)]
theorem I6 (l : LU0) (hL : l.length = 96) (ht : p7 l = 5) (h0 : ta l) (h1 : sX l) : Gives prog 33 (qC l) rX :=
 qD (QD ++ [(65, wO 1), (73, rO 5 0), (83, sK)]) (ai (Bw l hL) (ai (xa l hL) (ai (Lu l hL h1)
   (P6 hL ht h0).down)))
theorem Kg (l : LU0) (hL : l.length = 96) (ht : p7 l = 5) (h0 : ta l) (h1 : vv l) : Gives prog 33 (qC l) rX :=
 qD (QD ++ [(65, wO 2), (73, rO 5 0), (83, sK)]) (ai (Bw l hL) (ai (xa l hL) (ai (Lj l hL h1)
   (P6 hL ht h0).down)))
theorem sM (l : LU0) (hL : l.length = 192) : (((ofL (((((pY l).drop 48).drop 48).drop 48).drop 48)).size : Nat) : Int) = ((0 : Nat) : Int) := by rw [show (ofL (((((pY l).drop 48).drop 48).drop 48).drop 48)).size = 0 from (show ((((((pY l).drop 48).drop 48).drop 48).drop 48)).length = 0 from by simp [qd, hL])]
theorem qI (l : LU0) (hL : l.length = 192) : (0 : Int) <= 48 /\ (48 : Int) <= (ofL ((((pY l).drop 48).drop 48).drop 48)).size := ⟨by decide, by rw [show (ofL ((((pY l).drop 48).drop 48).drop 48)).size = 48 from (show (((((pY l).drop 48).drop 48).drop 48)).length = 48 from by simp [qd, hL])]; decide⟩
theorem v6 (l : LU0) (hL : l.length = 192) (h3 : c2 l 3 < 4002409555221667393417789825735904156556882819939007885332058136124031650490837864442687629129015664037894272559787) : (((((pY l).drop 48).drop 48).drop 48).take 48).length = 48 /\ deN 48 (((((pY l).drop 48).drop 48).drop 48).take 48) < 4002409555221667393417789825735904156556882819939007885332058136124031650490837864442687629129015664037894272559787 := ⟨by simp [qd, hL], h3⟩
theorem tq (l : LU0) (hL : l.length = 192) : (((ofL ((((pY l).drop 48).drop 48).drop 48)).size : Nat) : Int) = ((48 : Nat) : Int) := by rw [show (ofL ((((pY l).drop 48).drop 48).drop 48)).size = 48 from (show (((((pY l).drop 48).drop 48).drop 48)).length = 48 from by simp [qd, hL])]
theorem sw (l : LU0) (hL : l.length = 192) : (0 : Int) <= 48 /\ (48 : Int) <= (ofL (((pY l).drop 48).drop 48)).size := ⟨by decide, by rw [show (ofL (((pY l).drop 48).drop 48)).size = 96 from (show ((((pY l).drop 48).drop 48)).length = 96 from by simp [qd, hL])]; decide⟩
theorem zh (l : LU0) (hL : l.length = 192) (h2 : c2 l 2 < 4002409555221667393417789825735904156556882819939007885332058136124031650490837864442687629129015664037894272559787) : ((((pY l).drop 48).drop 48).take 48).length = 48 /\ deN 48 ((((pY l).drop 48).drop 48).take 48) < 4002409555221667393417789825735904156556882819939007885332058136124031650490837864442687629129015664037894272559787 := ⟨by simp [qd, hL], h2⟩
theorem Fx (l : LU0) (hL : l.length = 192) : (((ofL (((pY l).drop 48).drop 48)).size : Nat) : Int) = ((96 : Nat) : Int) := by rw [show (ofL (((pY l).drop 48).drop 48)).size = 96 from (show ((((pY l).drop 48).drop 48)).length = 96 from by simp [qd, hL])]
theorem Ae (l : LU0) (hL : l.length = 192) : (0 : Int) <= 48 /\ (48 : Int) <= (ofL ((pY l).drop 48)).size := ⟨by decide, by rw [show (ofL ((pY l).drop 48)).size = 144 from (show (((pY l).drop 48)).length = 144 from by simp [qd, hL])]; decide⟩
theorem OO (l : LU0) (hL : l.length = 192) (h1 : c2 l 1 < 4002409555221667393417789825735904156556882819939007885332058136124031650490837864442687629129015664037894272559787) : (((pY l).drop 48).take 48).length = 48 /\ deN 48 (((pY l).drop 48).take 48) < 4002409555221667393417789825735904156556882819939007885332058136124031650490837864442687629129015664037894272559787 := ⟨by simp [qd, hL], h1⟩
theorem PB (l : LU0) (hL : l.length = 192) : (((ofL ((pY l).drop 48)).size : Nat) : Int) = ((144 : Nat) : Int) := by rw [show (ofL ((pY l).drop 48)).size = 144 from (show (((pY l).drop 48)).length = 144 from by simp [qd, hL])]
theorem GC (l : LU0) (hL : l.length = 192) : (0 : Int) <= 48 /\ (48 : Int) <= (ofL (pY l)).size := ⟨by decide, by rw [show (ofL (pY l)).size = 192 from (show ((pY l)).length = 192 from by simp [qd, hL])]; decide⟩
theorem Yp (l : LU0) (hL : l.length = 192) (h0 : c2 l 0 < 4002409555221667393417789825735904156556882819939007885332058136124031650490837864442687629129015664037894272559787) : ((pY l).take 48).length = 48 /\ deN 48 ((pY l).take 48) < 4002409555221667393417789825735904156556882819939007885332058136124031650490837864442687629129015664037894272559787 := ⟨by simp [qd, hL], h0⟩
theorem P9 (l : LU0) (hL : l.length = 192) : (((ofL (pY l)).size : Nat) : Int) = ((192 : Nat) : Int) := by rw [show (ofL (pY l)).size = 192 from (show ((pY l)).length = 192 from by simp [qd, hL])]
theorem OU (l : LU0) (hL : l.length = 192) (ht : p7 l = 0) : l.length = 192 /\ p7 l = 0 := ⟨hL, ht⟩
abbrev PG (l : LU0) := ((ofP (deN 48 (((((pY l).drop 48).drop 48).drop 48).take 48)), ofP (deN 48 ((((pY l).drop 48).drop 48).take 48))) : F2)
abbrev tF (l : LU0) := (((zN l).1.val, (zN l).2.val), ((PG l).1.val, (PG l).2.val), false)
def VY {l : LU0} (hL : l.length = 192) (ht : p7 l = 0) (h0 : sn l) := PLift.up (ai (Ae l hL) (ai (PB l hL) (ai (GC l hL) (ai (Yp l hL h0) (ai (GC l hL) (ai (P9 l hL) (ai (OU l hL ht) tt0)))))))
abbrev vX (l : LU0) : Prop := c2 l 3 < 4002409555221667393417789825735904156556882819939007885332058136124031650490837864442687629129015664037894272559787
abbrev vm (l : LU0) : Prop := c2 l 2 < 4002409555221667393417789825735904156556882819939007885332058136124031650490837864442687629129015664037894272559787
def Kd {l : LU0} (hL : l.length = 192) (ht : p7 l = 0) (h0 : sn l) (h1 : sX l) := PLift.up (ai (sw l hL) (ai (Fx l hL) (ai (Ae l hL) (ai (OO l hL h1)
   (VY hL ht h0).down))))
def Gz {l : LU0} (hL : l.length = 192) (ht : p7 l = 0) (h0 : sn l) (h1 : sX l) (h2 : vm l) := PLift.up (ai (qI l hL) (ai (tq l hL) (ai (sw l hL) (ai (zh l hL h2)
   (Kd hL ht h0 h1).down))))
def IR : Nat × Ora := (57, { ch := 1, hi := fun _ => 144 })
def Jm : Nat × Ora := (29, { ch := 1, hi := fun _ => 192 })
def AQ : LO0 := [(3, wO 5), Jm, (36, rO 5 0), (37, wO 1), (45, rO 5 0), IR, (64, rO 5 0), (65, wO 1), (73, rO 5 0), (85, vW), (92, rO 5 0)]
def Jg : LO0 := [(93, wO 1), (101, rO 5 0), (113, tb), (120, rO 5 0), (121, wO 1), (129, rO 5 0), (141, sK)]
theorem Td (l : LU0) (hL : l.length = 192) (ht : p7 l = 0) (h0 : sn l) (h1 : sX l) (h2 : vm l) (h3 : vX l) (hr : sml2 (tF l) /\ ¬ may2 (tF l)) : Gives prog 33 (qC l) JX :=
 qD (AQ ++ Jg ++ [(178, wO 1)]) (ai (show sml2 (tF l) /\ ¬ may2 (tF l) from hr) (ai (sM l hL) (ai (qI l hL) (ai (v6 l hL h3)
   (Gz hL ht h0 h1 h2).down))))
theorem Tw (l : LU0) (hL : l.length = 192) (ht : p7 l = 0) (h0 : sn l) (h1 : sX l) (h2 : vm l) (h3 : vX l) (hg : sml2 (tF l) /\ may2 (tF l) /\ ¬ rm (tF l)) : Gives prog 33 (qC l) IS :=
 qD (AQ ++ Jg ++ [(178, wO 0), (182, wO 1)]) (ai (show sml2 (tF l) /\ may2 (tF l) /\ ¬ rm (tF l) from hg) (ai (show sml2 (tF l) /\ may2 (tF l) from ⟨hg.1, hg.2.1⟩) (ai (sM l hL) (ai (qI l hL) (ai (v6 l hL h3)
   (Gz hL ht h0 h1 h2).down)))))
theorem RI (l : LU0) (hL : l.length = 192) (ht : p7 l = 0) (h0 : sn l) (h1 : sX l) (h2 : vm l) (h3 : vX l) (hg : sml2 (tF l) /\ may2 (tF l) /\ rm (tF l)) : Gives prog 33 (qC l) (.tp [.ag [.q ((ofP (deN 48 (((pY l).drop 48).take 48)), ofP (deN 48 ((pY l).take 48))) : F2).1, .q ((ofP (deN 48 (((pY l).drop 48).take 48)), ofP (deN 48 ((pY l).take 48))) : F2).2, .q ((ofP (deN 48 (((((pY l).drop 48).drop 48).drop 48).take 48)), ofP (deN 48 ((((pY l).drop 48).drop 48).take 48))) : F2).1, .q ((ofP (deN 48 (((((pY l).drop 48).drop 48).drop 48).take 48)), ofP (deN 48 ((((pY l).drop 48).drop 48).take 48))) : F2).2, .c (.bool false)], vi0 0]) :=
 qD (AQ ++ Jg ++ [(178, wO 0), (182, wO 0)]) (ai (show sml2 (tF l) /\ may2 (tF l) /\ rm (tF l) from hg) (ai (show sml2 (tF l) /\ may2 (tF l) from ⟨hg.1, hg.2.1⟩) (ai (sM l hL) (ai (qI l hL) (ai (v6 l hL h3)
   (Gz hL ht h0 h1 h2).down)))))
theorem xD (l : LU0) (hL : l.length = 192) (h3 : 4002409555221667393417789825735904156556882819939007885332058136124031650490837864442687629129015664037894272559787 <= c2 l 3) : (((((pY l).drop 48).drop 48).drop 48).take 48).length = 48 /\ 4002409555221667393417789825735904156556882819939007885332058136124031650490837864442687629129015664037894272559787 <= deN 48 (((((pY l).drop 48).drop 48).drop 48).take 48) := ⟨by simp [qd, hL], h3⟩
abbrev yh (l : LU0) : Prop := 4002409555221667393417789825735904156556882819939007885332058136124031650490837864442687629129015664037894272559787 <= c2 l 3
theorem JA (l : LU0) (hL : l.length = 192) (ht : p7 l = 0) (h0 : sn l) (h1 : sX l) (h2 : vm l) (h3 : yh l) : Gives prog 33 (qC l) rX :=
 qD (AQ ++ [(93, wO 1), (101, rO 5 0), (113, tb), (120, rO 5 0), (121, wO 2), (129, rO 5 0), (141, sK)]) (ai (sM l hL) (ai (qI l hL) (ai (xD l hL h3)
   (Gz hL ht h0 h1 h2).down)))
theorem xX (l : LU0) (hL : l.length = 192) (h2 : 4002409555221667393417789825735904156556882819939007885332058136124031650490837864442687629129015664037894272559787 <= c2 l 2) : ((((pY l).drop 48).drop 48).take 48).length = 48 /\ 4002409555221667393417789825735904156556882819939007885332058136124031650490837864442687629129015664037894272559787 <= deN 48 ((((pY l).drop 48).drop 48).take 48) := ⟨by simp [qd, hL], h2⟩
abbrev xP (l : LU0) : Prop := 4002409555221667393417789825735904156556882819939007885332058136124031650490837864442687629129015664037894272559787 <= c2 l 2
theorem Jc (l : LU0) (hL : l.length = 192) (ht : p7 l = 0) (h0 : sn l) (h1 : sX l) (h2 : xP l) (h3 : vX l) : Gives prog 33 (qC l) rX :=
 qD (AQ ++ [(93, wO 2), (101, rO 5 0), (113, tb), (120, rO 5 0), (121, wO 1), (129, rO 5 0), (139, sK)]) (ai (sM l hL) (ai (qI l hL) (ai (v6 l hL h3) (ai (qI l hL) (ai (tq l hL) (ai (sw l hL) (ai (xX l hL h2)
   (Kd hL ht h0 h1).down)))))))
theorem I2 (l : LU0) (hL : l.length = 192) (ht : p7 l = 0) (h0 : sn l) (h1 : sX l) (h2 : xP l) (h3 : yh l) : Gives prog 33 (qC l) rX :=
 qD (AQ ++ [(93, wO 2), (101, rO 5 0), (113, tb), (120, rO 5 0), (121, wO 2), (129, rO 5 0), (139, sK)]) (ai (sM l hL) (ai (qI l hL) (ai (xD l hL h3) (ai (qI l hL) (ai (tq l hL) (ai (sw l hL) (ai (xX l hL h2)
   (Kd hL ht h0 h1).down)))))))
theorem Qa (l : LU0) (hL : l.length = 192) (h1 : 4002409555221667393417789825735904156556882819939007885332058136124031650490837864442687629129015664037894272559787 <= c2 l 1) : (((pY l).drop 48).take 48).length = 48 /\ 4002409555221667393417789825735904156556882819939007885332058136124031650490837864442687629129015664037894272559787 <= deN 48 (((pY l).drop 48).take 48) := ⟨by simp [qd, hL], h1⟩
def Fz {l : LU0} (hL : l.length = 192) (ht : p7 l = 0) (h0 : sn l) (h1 : vv l) := PLift.up (ai (sw l hL) (ai (Fx l hL) (ai (Ae l hL) (ai (Qa l hL h1)
   (VY hL ht h0).down))))
def F9 : LO0 := [(3, wO 5), Jm, (36, rO 5 0), (37, wO 1), (45, rO 5 0), IR, (64, rO 5 0), (65, wO 2), (73, rO 5 0), (85, vW), (92, rO 5 0)]
theorem I0 (l : LU0) (hL : l.length = 192) (ht : p7 l = 0) (h0 : sn l) (h1 : vv l) (h2 : vm l) (h3 : vX l) : Gives prog 33 (qC l) rX :=
 qD (F9 ++ [(93, wO 1), (101, rO 5 0), (111, tb), (118, rO 5 0), (119, wO 1), (127, rO 5 0), (137, sK)]) (ai (sM l hL) (ai (qI l hL) (ai (v6 l hL h3) (ai (qI l hL) (ai (tq l hL) (ai (sw l hL) (ai (zh l hL h2)
   (Fz hL ht h0 h1).down)))))))
theorem I4 (l : LU0) (hL : l.length = 192) (ht : p7 l = 0) (h0 : sn l) (h1 : vv l) (h2 : vm l) (h3 : yh l) : Gives prog 33 (qC l) rX :=
 qD (F9 ++ [(93, wO 1), (101, rO 5 0), (111, tb), (118, rO 5 0), (119, wO 2), (127, rO 5 0), (137, sK)]) (ai (sM l hL) (ai (qI l hL) (ai (xD l hL h3) (ai (qI l hL) (ai (tq l hL) (ai (sw l hL) (ai (zh l hL h2)
   (Fz hL ht h0 h1).down)))))))
theorem IT (l : LU0) (hL : l.length = 192) (ht : p7 l = 0) (h0 : sn l) (h1 : vv l) (h2 : xP l) (h3 : vX l) : Gives prog 33 (qC l) rX :=
 qD (F9 ++ [(93, wO 2), (101, rO 5 0), (111, tb), (118, rO 5 0), (119, wO 1), (127, rO 5 0), (137, sK)]) (ai (sM l hL) (ai (qI l hL) (ai (v6 l hL h3) (ai (qI l hL) (ai (tq l hL) (ai (sw l hL) (ai (xX l hL h2)
   (Fz hL ht h0 h1).down)))))))
theorem IP (l : LU0) (hL : l.length = 192) (ht : p7 l = 0) (h0 : sn l) (h1 : vv l) (h2 : xP l) (h3 : yh l) : Gives prog 33 (qC l) rX :=
 qD (F9 ++ [(93, wO 2), (101, rO 5 0), (111, tb), (118, rO 5 0), (119, wO 2), (127, rO 5 0), (137, sK)]) (ai (sM l hL) (ai (qI l hL) (ai (xD l hL h3) (ai (qI l hL) (ai (tq l hL) (ai (sw l hL) (ai (xX l hL h2)
   (Fz hL ht h0 h1).down)))))))
theorem Yo (l : LU0) (hL : l.length = 192) (h0 : 4002409555221667393417789825735904156556882819939007885332058136124031650490837864442687629129015664037894272559787 <= c2 l 0) : ((pY l).take 48).length = 48 /\ 4002409555221667393417789825735904156556882819939007885332058136124031650490837864442687629129015664037894272559787 <= deN 48 ((pY l).take 48) := ⟨by simp [qd, hL], h0⟩
def VQ {l : LU0} (hL : l.length = 192) (ht : p7 l = 0) (h0 : 4002409555221667393417789825735904156556882819939007885332058136124031650490837864442687629129015664037894272559787 <= c2 l 0) := PLift.up (ai (Ae l hL) (ai (PB l hL) (ai (GC l hL) (ai (Yo l hL h0) (ai (GC l hL) (ai (P9 l hL) (ai (OU l hL ht) tt0)))))))
def FR {l : LU0} (hL : l.length = 192) (ht : p7 l = 0) (h0 : ta l) (h1 : sX l) := PLift.up (ai (sw l hL) (ai (Fx l hL) (ai (Ae l hL) (ai (OO l hL h1)
   (VQ hL ht h0).down))))
def xW : LO0 := [(3, wO 5), Jm, (36, rO 5 0), (37, wO 2), (45, rO 5 0), IR, (64, rO 5 0)]
def E9 : LO0 := [(65, wO 1), (73, rO 5 0), (83, vW), (90, rO 5 0)]
def FU : LO0 := [(91, wO 1), (99, rO 5 0), (109, tb), (116, rO 5 0)]
def FG : LO0 := [(117, wO 1), (125, rO 5 0), (135, sK)]
theorem IU (l : LU0) (hL : l.length = 192) (ht : p7 l = 0) (h0 : ta l) (h1 : sX l) (h2 : vm l) (h3 : vX l) : Gives prog 33 (qC l) rX :=
 qD (xW ++ E9 ++ FU ++ FG) (ai (sM l hL) (ai (qI l hL) (ai (v6 l hL h3) (ai (qI l hL) (ai (tq l hL) (ai (sw l hL) (ai (zh l hL h2)
   (FR hL ht h0 h1).down)))))))
def Gp : LO0 := [(117, wO 2), (125, rO 5 0), (135, sK)]
theorem JL (l : LU0) (hL : l.length = 192) (ht : p7 l = 0) (h0 : ta l) (h1 : sX l) (h2 : vm l) (h3 : yh l) : Gives prog 33 (qC l) rX :=
 qD (xW ++ E9 ++ FU ++ Gp) (ai (sM l hL) (ai (qI l hL) (ai (xD l hL h3) (ai (qI l hL) (ai (tq l hL) (ai (sw l hL) (ai (zh l hL h2)
   (FR hL ht h0 h1).down)))))))
def ET : LO0 := [(91, wO 2), (99, rO 5 0), (109, tb), (116, rO 5 0)]
theorem Jo (l : LU0) (hL : l.length = 192) (ht : p7 l = 0) (h0 : ta l) (h1 : sX l) (h2 : xP l) (h3 : vX l) : Gives prog 33 (qC l) rX :=
 qD (xW ++ E9 ++ ET ++ FG) (ai (sM l hL) (ai (qI l hL) (ai (v6 l hL h3) (ai (qI l hL) (ai (tq l hL) (ai (sw l hL) (ai (xX l hL h2)
   (FR hL ht h0 h1).down)))))))
theorem I5 (l : LU0) (hL : l.length = 192) (ht : p7 l = 0) (h0 : ta l) (h1 : sX l) (h2 : xP l) (h3 : yh l) : Gives prog 33 (qC l) rX :=
 qD (xW ++ E9 ++ ET ++ Gp) (ai (sM l hL) (ai (qI l hL) (ai (xD l hL h3) (ai (qI l hL) (ai (tq l hL) (ai (sw l hL) (ai (xX l hL h2)
   (FR hL ht h0 h1).down)))))))
def E0 {l : LU0} (hL : l.length = 192) (ht : p7 l = 0) (h0 : ta l) (h1 : vv l) := PLift.up (ai (sw l hL) (ai (Fx l hL) (ai (Ae l hL) (ai (Qa l hL h1)
   (VQ hL ht h0).down))))
def Gi : LO0 := [(65, wO 2), (73, rO 5 0), (83, vW), (90, rO 5 0)]
theorem ID (l : LU0) (hL : l.length = 192) (ht : p7 l = 0) (h0 : ta l) (h1 : vv l) (h2 : vm l) (h3 : vX l) : Gives prog 33 (qC l) rX :=
 qD (xW ++ Gi ++ FU ++ FG) (ai (sM l hL) (ai (qI l hL) (ai (v6 l hL h3) (ai (qI l hL) (ai (tq l hL) (ai (sw l hL) (ai (zh l hL h2)
   (E0 hL ht h0 h1).down)))))))
theorem J5 (l : LU0) (hL : l.length = 192) (ht : p7 l = 0) (h0 : ta l) (h1 : vv l) (h2 : vm l) (h3 : yh l) : Gives prog 33 (qC l) rX :=
 qD (xW ++ Gi ++ FU ++ Gp) (ai (sM l hL) (ai (qI l hL) (ai (xD l hL h3) (ai (qI l hL) (ai (tq l hL) (ai (sw l hL) (ai (zh l hL h2)
   (E0 hL ht h0 h1).down)))))))
theorem Km (l : LU0) (hL : l.length = 192) (ht : p7 l = 0) (h0 : ta l) (h1 : vv l) (h2 : xP l) (h3 : vX l) : Gives prog 33 (qC l) rX :=
 qD (xW ++ Gi ++ ET ++ FG) (ai (sM l hL) (ai (qI l hL) (ai (v6 l hL h3) (ai (qI l hL) (ai (tq l hL) (ai (sw l hL) (ai (xX l hL h2)
   (E0 hL ht h0 h1).down)))))))
theorem Ke (l : LU0) (hL : l.length = 192) (ht : p7 l = 0) (h0 : ta l) (h1 : vv l) (h2 : xP l) (h3 : yh l) : Gives prog 33 (qC l) rX :=
 qD (xW ++ Gi ++ ET ++ Gp) (ai (sM l hL) (ai (qI l hL) (ai (xD l hL h3) (ai (qI l hL) (ai (tq l hL) (ai (sw l hL) (ai (xX l hL h2)
   (E0 hL ht h0 h1).down)))))))
def sh2 (l : LU0) : Prop := l.length = 96 /\ (p7 l = 4 ∨ p7 l = 5)
def lo2 (l : LU0) : Prop := l.length = 192 /\ p7 l = 0
theorem CO (x : F2) : of2 (x.1.val, x.2.val) = x := by unfold of2; rw [r9, r9]
theorem uc (x y : F2) (b : Bool) : sml2 ((x.1.val, x.2.val), (y.1.val, y.2.val), b) := ⟨⟨wQ _, wQ _⟩, ⟨wQ _, wQ _⟩⟩
theorem EY (a : F2) : qh (sj a) (sj a) = qh a a := by refine vq ?_ ?_ <;> simp only [qh, sj] <;> grind
theorem yJ (x : F2) (h : Bool) (hq : sq2 (se x)) : may2 ((x.1.val, x.2.val), ((sy2 (se x) h).1.val, (sy2 (se x) h).2.val), false) := by
 show is2 (x.1.val, x.2.val) /\ is2 ((sy2 (se x) h).1.val, (sy2 (se x) h).2.val) /\ qh (of2 ((sy2 (se x) h).1.val, (sy2 (se x) h).2.val)) (of2 ((sy2 (se x) h).1.val, (sy2 (se x) h).2.val)) = se (of2 (x.1.val, x.2.val))
 refine ⟨⟨x.1.isLt, x.2.isLt⟩, ⟨Fin.isLt _, Fin.isLt _⟩, ?_⟩
 rw [CO, CO]
 cases h
 ·exact Pk hq
 ·show qh (sj (rt2 (se x))) (sj (rt2 (se x))) = se x
  rw [EY]; exact Pk hq
def altG2 (l : LU0) : uF := [(some (l.length ≠ 96 /\ l.length ≠ 192), .tp [.ag [.c (.int .u64 0), .c (.int .u64 0), .c (.int .u64 0), .c (.int .u64 0), .c (.int .u64 0), .c (.int .u64 0), .c (.int .u64 0), .c (.int .u64 0), .c (.int .u64 0), .c (.int .u64 0), .c (.int .u64 0), .c (.int .u64 0), .c (.int .u64 0), .c (.int .u64 0), .c (.int .u64 0), .c (.int .u64 0), .c (.int .u64 0), .c (.int .u64 0), .c (.int .u64 0), .c (.int .u64 0), .c (.int .u64 0), .c (.int .u64 0), .c (.int .u64 0), .c (.int .u64 0), .c (.bool false)], vi0 3]), (some ((l.length = 96 /\ p7 l ≠ 4 /\ p7 l ≠ 5 /\ p7 l ≠ 6) ∨ (l.length = 192 /\ p7 l ≠ 0 /\ p7 l ≠ 2)), .tp [.ag [.c (.int .u64 0), .c (.int .u64 0), .c (.int .u64 0), .c (.int .u64 0), .c (.int .u64 0), .c (.int .u64 0), .c (.int .u64 0), .c (.int .u64 0), .c (.int .u64 0), .c (.int .u64 0), .c (.int .u64 0), .c (.int .u64 0), .c (.int .u64 0), .c (.int .u64 0), .c (.int .u64 0), .c (.int .u64 0), .c (.int .u64 0), .c (.int .u64 0), .c (.int .u64 0), .c (.int .u64 0), .c (.int .u64 0), .c (.int .u64 0), .c (.int .u64 0), .c (.int .u64 0), .c (.bool false)], vi0 32]), (some (((l.length = 96 /\ p7 l = 6) ∨ (l.length = 192 /\ p7 l = 2)) /\ ¬ te (pY l)), .tp [.ag [.c (.int .u64 0), .c (.int .u64 0), .c (.int .u64 0), .c (.int .u64 0), .c (.int .u64 0), .c (.int .u64 0), .c (.int .u64 0), .c (.int .u64 0), .c (.int .u64 0), .c (.int .u64 0), .c (.int .u64 0), .c (.int .u64 0), .c (.int .u64 0), .c (.int .u64 0), .c (.int .u64 0), .c (.int .u64 0), .c (.int .u64 0), .c (.int .u64 0), .c (.int .u64 0), .c (.int .u64 0), .c (.int .u64 0), .c (.int .u64 0), .c (.int .u64 0), .c (.int .u64 0), .c (.bool false)], vi0 33]), (some (((l.length = 96 /\ p7 l = 6) ∨ (l.length = 192 /\ p7 l = 2)) /\ te (pY l)), .tp [.ag [.c (.int .u64 0), .c (.int .u64 0), .c (.int .u64 0), .c (.int .u64 0), .c (.int .u64 0), .c (.int .u64 0), .c (.int .u64 0), .c (.int .u64 0), .c (.int .u64 0), .c (.int .u64 0), .c (.int .u64 0), .c (.int .u64 0), .c (.int .u64 0), .c (.int .u64 0), .c (.int .u64 0), .c (.int .u64 0), .c (.int .u64 0), .c (.int .u64 0), .c (.int .u64 0), .c (.int .u64 0), .c (.int .u64 0), .c (.int .u64 0), .c (.int .u64 0), .c (.int .u64 0), .c (.bool true)], vi0 0]), (some (sh2 l /\ ¬ (c2 l 0 < Pp /\ c2 l 1 < Pp)), .tp [.ag [.c (.int .u64 0), .c (.int .u64 0), .c (.int .u64 0), .c (.int .u64 0), .c (.int .u64 0), .c (.int .u64 0), .c (.int .u64 0), .c (.int .u64 0), .c (.int .u64 0), .c (.int .u64 0), .c (.int .u64 0), .c (.int .u64 0), .c (.int .u64 0), .c (.int .u64 0), .c (.int .u64 0), .c (.int .u64 0), .c (.int .u64 0), .c (.int .u64 0), .c (.int .u64 0), .c (.int .u64 0), .c (.int .u64 0), .c (.int .u64 0), .c (.int .u64 0), .c (.int .u64 0), .c (.bool false)], vi0 20]), (some (sh2 l /\ (c2 l 0 < Pp /\ c2 l 1 < Pp) /\ ¬ sq2 (se ((ofP (c2 l 1), ofP (c2 l 0)) : F2))), .tp [.ag [.c (.int .u64 0), .c (.int .u64 0), .c (.int .u64 0), .c (.int .u64 0), .c (.int .u64 0), .c (.int .u64 0), .c (.int .u64 0), .c (.int .u64 0), .c (.int .u64 0), .c (.int .u64 0), .c (.int .u64 0), .c (.int .u64 0), .c (.int .u64 0), .c (.int .u64 0), .c (.int .u64 0), .c (.int .u64 0), .c (.int .u64 0), .c (.int .u64 0), .c (.int .u64 0), .c (.int .u64 0), .c (.int .u64 0), .c (.int .u64 0), .c (.int .u64 0), .c (.int .u64 0), .c (.bool false)], vi0 30]), (some (sh2 l /\ (c2 l 0 < Pp /\ c2 l 1 < Pp) /\ sq2 (se ((ofP (c2 l 1), ofP (c2 l 0)) : F2)) /\ ¬ rm ((((ofP (c2 l 1), ofP (c2 l 0)) : F2).1.val, ((ofP (c2 l 1), ofP (c2 l 0)) : F2).2.val), ((sy2 (se ((ofP (c2 l 1), ofP (c2 l 0)) : F2)) (decide (p7 l = 5))).1.val, (sy2 (se ((ofP (c2 l 1), ofP (c2 l 0)) : F2)) (decide (p7 l = 5))).2.val), false)), .tp [.ag [.c (.int .u64 0), .c (.int .u64 0), .c (.int .u64 0), .c (.int .u64 0), .c (.int .u64 0), .c (.int .u64 0), .c (.int .u64 0), .c (.int .u64 0), .c (.int .u64 0), .c (.int .u64 0), .c (.int .u64 0), .c (.int .u64 0), .c (.int .u64 0), .c (.int .u64 0), .c (.int .u64 0), .c (.int .u64 0), .c (.int .u64 0), .c (.int .u64 0), .c (.int .u64 0), .c (.int .u64 0), .c (.int .u64 0), .c (.int .u64 0), .c (.int .u64 0), .c (.int .u64 0), .c (.bool false)], vi0 31]), (some (sh2 l /\ (c2 l 0 < Pp /\ c2 l 1 < Pp) /\ sq2 (se ((ofP (c2 l 1), ofP (c2 l 0)) : F2)) /\ rm ((((ofP (c2 l 1), ofP (c2 l 0)) : F2).1.val, ((ofP (c2 l 1), ofP (c2 l 0)) : F2).2.val), ((sy2 (se ((ofP (c2 l 1), ofP (c2 l 0)) : F2)) (decide (p7 l = 5))).1.val, (sy2 (se ((ofP (c2 l 1), ofP (c2 l 0)) : F2)) (decide (p7 l = 5))).2.val), false)), .tp [.ag [.q ((ofP (c2 l 1), ofP (c2 l 0)) : F2).1, .q ((ofP (c2 l 1), ofP (c2 l 0)) : F2).2, .q (sy2 (se ((ofP (c2 l 1), ofP (c2 l 0)) : F2)) (decide (p7 l = 5))).1, .q (sy2 (se ((ofP (c2 l 1), ofP (c2 l 0)) : F2)) (decide (p7 l = 5))).2, .c (.bool false)], vi0 0]), (some (lo2 l /\ ¬ (c2 l 0 < Pp /\ c2 l 1 < Pp /\ c2 l 2 < Pp /\ c2 l 3 < Pp)), .tp [.ag [.c (.int .u64 0), .c (.int .u64 0), .c (.int .u64 0), .c (.int .u64 0), .c (.int .u64 0), .c (.int .u64 0), .c (.int .u64 0), .c (.int .u64 0), .c (.int .u64 0), .c (.int .u64 0), .c (.int .u64 0), .c (.int .u64 0), .c (.int .u64 0), .c (.int .u64 0), .c (.int .u64 0), .c (.int .u64 0), .c (.int .u64 0), .c (.int .u64 0), .c (.int .u64 0), .c (.int .u64 0), .c (.int .u64 0), .c (.int .u64 0), .c (.int .u64 0), .c (.int .u64 0), .c (.bool false)], vi0 20]), (some (lo2 l /\ (c2 l 0 < Pp /\ c2 l 1 < Pp /\ c2 l 2 < Pp /\ c2 l 3 < Pp) /\ ¬ may2 ((((ofP (c2 l 1), ofP (c2 l 0)) : F2).1.val, ((ofP (c2 l 1), ofP (c2 l 0)) : F2).2.val), (((ofP (c2 l 3), ofP (c2 l 2)) : F2).1.val, ((ofP (c2 l 3), ofP (c2 l 2)) : F2).2.val), false)), .tp [.ag [.c (.int .u64 0), .c (.int .u64 0), .c (.int .u64 0), .c (.int .u64 0), .c (.int .u64 0), .c (.int .u64 0), .c (.int .u64 0), .c (.int .u64 0), .c (.int .u64 0), .c (.int .u64 0), .c (.int .u64 0), .c (.int .u64 0), .c (.int .u64 0), .c (.int .u64 0), .c (.int .u64 0), .c (.int .u64 0), .c (.int .u64 0), .c (.int .u64 0), .c (.int .u64 0), .c (.int .u64 0), .c (.int .u64 0), .c (.int .u64 0), .c (.int .u64 0), .c (.int .u64 0), .c (.bool false)], vi0 30]), (some (lo2 l /\ (c2 l 0 < Pp /\ c2 l 1 < Pp /\ c2 l 2 < Pp /\ c2 l 3 < Pp) /\ may2 ((((ofP (c2 l 1), ofP (c2 l 0)) : F2).1.val, ((ofP (c2 l 1), ofP (c2 l 0)) : F2).2.val), (((ofP (c2 l 3), ofP (c2 l 2)) : F2).1.val, ((ofP (c2 l 3), ofP (c2 l 2)) : F2).2.val), false) /\ ¬ rm ((((ofP (c2 l 1), ofP (c2 l 0)) : F2).1.val, ((ofP (c2 l 1), ofP (c2 l 0)) : F2).2.val), (((ofP (c2 l 3), ofP (c2 l 2)) : F2).1.val, ((ofP (c2 l 3), ofP (c2 l 2)) : F2).2.val), false)), .tp [.ag [.c (.int .u64 0), .c (.int .u64 0), .c (.int .u64 0), .c (.int .u64 0), .c (.int .u64 0), .c (.int .u64 0), .c (.int .u64 0), .c (.int .u64 0), .c (.int .u64 0), .c (.int .u64 0), .c (.int .u64 0), .c (.int .u64 0), .c (.int .u64 0), .c (.int .u64 0), .c (.int .u64 0), .c (.int .u64 0), .c (.int .u64 0), .c (.int .u64 0), .c (.int .u64 0), .c (.int .u64 0), .c (.int .u64 0), .c (.int .u64 0), .c (.int .u64 0), .c (.int .u64 0), .c (.bool false)], vi0 31]), (some (lo2 l /\ (c2 l 0 < Pp /\ c2 l 1 < Pp /\ c2 l 2 < Pp /\ c2 l 3 < Pp) /\ may2 ((((ofP (c2 l 1), ofP (c2 l 0)) : F2).1.val, ((ofP (c2 l 1), ofP (c2 l 0)) : F2).2.val), (((ofP (c2 l 3), ofP (c2 l 2)) : F2).1.val, ((ofP (c2 l 3), ofP (c2 l 2)) : F2).2.val), false) /\ rm ((((ofP (c2 l 1), ofP (c2 l 0)) : F2).1.val, ((ofP (c2 l 1), ofP (c2 l 0)) : F2).2.val), (((ofP (c2 l 3), ofP (c2 l 2)) : F2).1.val, ((ofP (c2 l 3), ofP (c2 l 2)) : F2).2.val), false)), .tp [.ag [.q ((ofP (c2 l 1), ofP (c2 l 0)) : F2).1, .q ((ofP (c2 l 1), ofP (c2 l 0)) : F2).2, .q ((ofP (c2 l 3), ofP (c2 l 2)) : F2).1, .q ((ofP (c2 l 3), ofP (c2 l 2)) : F2).2, .c (.bool false)], vi0 0])]
set_option maxHeartbeats 4000000 in
theorem R8 (l : LU0) : ∀ c r, (c, r) ∈ altG2 l -> c.getD True -> Gives prog 33 [.t (.v (.string (ofL l)))] r := by
 intro c x hm hc
 simp only [altG2, List.mem_cons, pi0, List.not_mem_nil, or_false] at hm
 rcases hm with ⟨rfl, rfl⟩ | ⟨rfl, rfl⟩ | ⟨rfl, rfl⟩ | ⟨rfl, rfl⟩ | ⟨rfl, rfl⟩ | ⟨rfl, rfl⟩ | ⟨rfl, rfl⟩ | ⟨rfl, rfl⟩ | ⟨rfl, rfl⟩ | ⟨rfl, rfl⟩ | ⟨rfl, rfl⟩ | ⟨rfl, rfl⟩
 ·exact S7 l hc
 ·exact Qp l hc
 ·exact PR l hc
 ·obtain ⟨h | h, hz⟩ := hc
  ·exact Th l ⟨h, hz⟩
  ·exact TX l ⟨h, hz⟩
 ·obtain ⟨⟨hL, ht | ht⟩, h⟩ := hc
  ·by_cases h0 : c2 l 0 < Pp
   ·by_cases h1 : c2 l 1 < Pp
    ·exact absurd ⟨h0, h1⟩ h
    ·exact J2 l hL ht h0 (Nat.le_of_not_lt h1)
   ·by_cases h1 : c2 l 1 < Pp
    ·exact Ju l hL ht (Nat.le_of_not_lt h0) h1
    ·exact JE l hL ht (Nat.le_of_not_lt h0) (Nat.le_of_not_lt h1)
  ·by_cases h0 : c2 l 0 < Pp
   ·by_cases h1 : c2 l 1 < Pp
    ·exact absurd ⟨h0, h1⟩ h
    ·exact IF l hL ht h0 (Nat.le_of_not_lt h1)
   ·by_cases h1 : c2 l 1 < Pp
    ·exact I6 l hL ht (Nat.le_of_not_lt h0) h1
    ·exact Kg l hL ht (Nat.le_of_not_lt h0) (Nat.le_of_not_lt h1)
 ·obtain ⟨⟨hL, ht | ht⟩, ⟨h0, h1⟩, hq⟩ := hc
  ·exact OR l hL ht h0 h1 hq
  ·exact RE l hL ht h0 h1 hq
 ·obtain ⟨⟨hL, ht | ht⟩, ⟨h0, h1⟩, hq, hg⟩ := hc
  ·have e : decide (p7 l = 5) = false := by rw [ht]; rfl
   rw [e] at hg
   exact QW l hL ht h0 h1 hq ⟨uc _ _ _, yJ _ false hq, hg⟩
  ·have e : decide (p7 l = 5) = true := by rw [ht]; rfl
   rw [e] at hg
   exact OS l hL ht h0 h1 hq ⟨uc _ _ _, yJ _ true hq, hg⟩
 ·obtain ⟨⟨hL, ht | ht⟩, ⟨h0, h1⟩, hq, hg⟩ := hc
  ·have e : decide (p7 l = 5) = false := by rw [ht]; rfl
   rw [e] at hg ⊢
   exact L0 l hL ht h0 h1 hq ⟨uc _ _ _, yJ _ false hq, hg⟩
  ·have e : decide (p7 l = 5) = true := by rw [ht]; rfl
   rw [e] at hg ⊢
   exact MT l hL ht h0 h1 hq ⟨uc _ _ _, yJ _ true hq, hg⟩
 ·obtain ⟨⟨hL, ht⟩, h⟩ := hc
  by_cases h0 : c2 l 0 < Pp
  ·by_cases h1 : c2 l 1 < Pp
   ·by_cases h2 : c2 l 2 < Pp
    ·by_cases h3 : c2 l 3 < Pp
     ·exact absurd ⟨h0, h1, h2, h3⟩ h
     ·exact JA l hL ht h0 h1 h2 (Nat.le_of_not_lt h3)
    ·by_cases h3 : c2 l 3 < Pp
     ·exact Jc l hL ht h0 h1 (Nat.le_of_not_lt h2) h3
     ·exact I2 l hL ht h0 h1 (Nat.le_of_not_lt h2) (Nat.le_of_not_lt h3)
   ·by_cases h2 : c2 l 2 < Pp
    ·by_cases h3 : c2 l 3 < Pp
     ·exact I0 l hL ht h0 (Nat.le_of_not_lt h1) h2 h3
     ·exact I4 l hL ht h0 (Nat.le_of_not_lt h1) h2 (Nat.le_of_not_lt h3)
    ·by_cases h3 : c2 l 3 < Pp
     ·exact IT l hL ht h0 (Nat.le_of_not_lt h1) (Nat.le_of_not_lt h2) h3
     ·exact IP l hL ht h0 (Nat.le_of_not_lt h1) (Nat.le_of_not_lt h2) (Nat.le_of_not_lt h3)
  ·by_cases h1 : c2 l 1 < Pp
   ·by_cases h2 : c2 l 2 < Pp
    ·by_cases h3 : c2 l 3 < Pp
     ·exact IU l hL ht (Nat.le_of_not_lt h0) h1 h2 h3
     ·exact JL l hL ht (Nat.le_of_not_lt h0) h1 h2 (Nat.le_of_not_lt h3)
    ·by_cases h3 : c2 l 3 < Pp
     ·exact Jo l hL ht (Nat.le_of_not_lt h0) h1 (Nat.le_of_not_lt h2) h3
     ·exact I5 l hL ht (Nat.le_of_not_lt h0) h1 (Nat.le_of_not_lt h2) (Nat.le_of_not_lt h3)
   ·by_cases h2 : c2 l 2 < Pp
    ·by_cases h3 : c2 l 3 < Pp
     ·exact ID l hL ht (Nat.le_of_not_lt h0) (Nat.le_of_not_lt h1) h2 h3
     ·exact J5 l hL ht (Nat.le_of_not_lt h0) (Nat.le_of_not_lt h1) h2 (Nat.le_of_not_lt h3)
    ·by_cases h3 : c2 l 3 < Pp
     ·exact Km l hL ht (Nat.le_of_not_lt h0) (Nat.le_of_not_lt h1) (Nat.le_of_not_lt h2) h3
     ·exact Ke l hL ht (Nat.le_of_not_lt h0) (Nat.le_of_not_lt h1) (Nat.le_of_not_lt h2) (Nat.le_of_not_lt h3)
 ·obtain ⟨⟨hL, ht⟩, ⟨h0, h1, h2, h3⟩, hr⟩ := hc
  exact Td l hL ht h0 h1 h2 h3 ⟨uc _ _ _, hr⟩
 ·obtain ⟨⟨hL, ht⟩, ⟨h0, h1, h2, h3⟩, hr, hg⟩ := hc
  exact Tw l hL ht h0 h1 h2 h3 ⟨uc _ _ _, hr, hg⟩
 ·obtain ⟨⟨hL, ht⟩, ⟨h0, h1, h2, h3⟩, hr, hg⟩ := hc
  exact RI l hL ht h0 h1 h2 h3 ⟨uc _ _ _, hr, hg⟩
end Go.Proofs.YtokjhbmmdmeafaaGreat
set_option linter.unusedSimpArgs false
set_option linter.unusedVariables false
namespace Go.Proofs.YtokjhbmmdmeafaaGreat
open Go.Ev Go.RowKit
open Tryz
theorem Gives.same {P : Program} {f : FuncId} {xs : List XV} {a b : List Ch} {r : AV} (h : Gives P f xs (.tp [.ag a, r])) (e : AV.val? (.tp [.ag a, r]) = AV.val? (.tp [.ag b, r])) : Gives P f xs (.tp [.ag b, r]) := by
 obtain ⟨v, h1, h2⟩ := h
 exact ⟨v, e ▸ h1, h2⟩
def tX (l : LU0) : Prop := (l.length = 48 /\ p7 l = 6) ∨ (l.length = 96 /\ p7 l = 2)
instance (l : LU0) : Decidable (tX l) := inferInstanceAs (Decidable (_ ∨ _))
def gx1 (l : LU0) : Fin Pp := if tX l then 0 else ofP (nX l)
def gy1 (l : LU0) : Fin Pp := if tX l then 0 else if l.length = 48 then sy1 (sV (ofP (nX l))) (decide (p7 l = 5)) else ofP (nY l)
def ok1 (l : LU0) : Prop :=
 (tX l /\ te (pY l)) ∨ (sh1 l /\ nX l < Pp /\ sqP (sV (ofP (nX l))) /\ rp ((ofP (nX l)).val, (sy1 (sV (ofP (nX l))) (decide (p7 l = 5))).val, false)) ∨
  (lo1 l /\ (nX l < Pp /\ nY l < Pp) /\ may1 ((ofP (nX l)).val, (ofP (nY l)).val, false) /\ rp ((ofP (nX l)).val, (ofP (nY l)).val, false))
def z13 : List Ch := [.c (.int .u64 0), .c (.int .u64 0), .c (.int .u64 0), .c (.int .u64 0), .c (.int .u64 0), .c (.int .u64 0), .c (.int .u64 0), .c (.int .u64 0), .c (.int .u64 0), .c (.int .u64 0), .c (.int .u64 0), .c (.int .u64 0), .c (.bool false)]
def cd1 (l : LU0) (k : Int) : Prop := k ≠ 0 /\ Gives prog 27 [.t (.v (.string (ofL l)))] (.tp [.ag z13, vi0 k])
theorem at1 (l : LU0) (i : Nat) {c : Option Prop} {r : AV} (h : (altG1 l)[i]? = some (c, r)) (hc : c.getD True) : Gives prog 27 [.t (.v (.string (ofL l)))] r := PS l c r (List.mem_of_getElem? h) hc
theorem form1 {l : LU0} (h0 : ¬ (l.length ≠ 48 /\ l.length ≠ 96)) (hs : ¬ ((l.length = 48 /\ p7 l ≠ 4 /\ p7 l ≠ 5 /\ p7 l ≠ 6) ∨ (l.length = 96 /\ p7 l ≠ 0 /\ p7 l ≠ 2))) (hi : ¬ tX l) : sh1 l ∨ lo1 l := by
 unfold sh1 lo1
 unfold tX at hi
 omega
theorem tt {l : LU0} (h : sh1 l) : ¬ tX l := by unfold tX; unfold sh1 at h; omega
theorem tv {l : LU0} (h : lo1 l) : ¬ tX l := by unfold tX; unfold lo1 at h; omega
theorem TD : AV.val? (.tp [.ag [.c (.int .u64 0), .c (.int .u64 0), .c (.int .u64 0), .c (.int .u64 0), .c (.int .u64 0), .c (.int .u64 0), .c (.int .u64 0), .c (.int .u64 0), .c (.int .u64 0), .c (.int .u64 0), .c (.int .u64 0), .c (.int .u64 0), .c (.bool true)], vi0 0]) = AV.val? (.tp [.ag [.q 0, .q 0, .c (.bool true)], vi0 0]) := rfl
theorem aa7 (l : LU0) (h : ok1 l) : Gives prog 27 [.t (.v (.string (ofL l)))] (.tp [.ag [.q (gx1 l), .q (gy1 l), .c (.bool (decide (tX l)))], vi0 0]) := by
 rcases h with ⟨hi, hz⟩ | ⟨s, h⟩ | ⟨s, h⟩
 ·rw [show gx1 l = 0 from if_pos hi, show gy1 l = 0 from if_pos hi, show decide (tX l) = true from decide_eq_true hi]
  exact Gives.same (at1 l 3 rfl ⟨hi, hz⟩) TD
 ·rw [show gx1 l = _ from if_neg (tt s), show gy1 l = _ from if_neg (tt s), show decide (tX l) = false from decide_eq_false (tt s), if_pos s.1]
  exact at1 l 7 rfl ⟨s, h⟩
 ·rw [show gx1 l = _ from if_neg (tv s), show gy1 l = _ from if_neg (tv s), show decide (tX l) = false from decide_eq_false (tv s), if_neg (by have := s.1; omega)]
  exact at1 l 11 rfl ⟨s, h⟩
theorem Uu : b1 0 = List.replicate 48 0 := by decide +kernel
theorem Qo {l : LU0} {x : Fin Pp} (h : pY l = b1 x) : nX l = x.val := by unfold nX; rw [h, Hq, CB]
theorem Te {l : LU0} {x y : Fin Pp} (h : pY l = b1 x ++ b1 y) : nX l = x.val := by unfold nX; rw [h, Cb, CB]
theorem UE {l : LU0} {x y : Fin Pp} (h : pY l = b1 x ++ b1 y) : nY l = y.val := by unfold nY; rw [h, B3, Hq, CB]
theorem hi0 : decide (hiP 0) = false := decide_eq_false BJ
theorem L6 (s : Bool) : ok1 (putL1 0 0 true s) /\ tX (putL1 0 0 true s) := by
 obtain ⟨ht, hm⟩ := Ah 0 0 true s
 have hl := vw 0 0 true s
 rw [hi0] at ht
 have hi : tX (putL1 0 0 true s) := by
  unfold tX
  cases s
  ·exact .inr ⟨hl, ht⟩
  ·exact .inl ⟨hl, ht⟩
 refine ⟨.inl ⟨hi, ?_⟩, hi⟩
 rw [hm]
 intro b hb
 cases s
 ·have hb : b ∈ b1 0 ++ b1 0 := hb
  rw [Uu, List.replicate_append_replicate] at hb
  exact List.eq_of_mem_replicate hb
 ·have hb : b ∈ b1 0 := hb
  rw [Uu] at hb
  exact List.eq_of_mem_replicate hb
theorem Sa {x y : Fin Pp} (h : y * y = sV x) : sy1 (sV x) (decide (hiP y)) = y := by
 rw [← h]
 by_cases hy : hiP y
 ·rw [decide_eq_true hy]
  show -(lowP (rtP (y * y))) = y
  rw [RN, show lowP y = -y from if_pos hy]; exact HZ y
 ·rw [decide_eq_false hy]
  show lowP (rtP (y * y)) = y
  rw [RN, show lowP y = y from if_neg hy]
theorem HI (x y : Fin Pp) (h : y * y = sV x) (hg : rp (x.val, y.val, false)) : ok1 (putL1 x y false true) /\ gx1 (putL1 x y false true) = x /\ gy1 (putL1 x y false true) = y /\ ¬ tX (putL1 x y false true) := by
 obtain ⟨ht, hm⟩ := Ah x y false true
 have hl : (putL1 x y false true).length = 48 := vw x y false true
 generalize putL1 x y false true = l at *
 have hx : nX l = x.val := Qo hm
 have ht' : (p7 l = 4 ∨ p7 l = 5) /\ decide (p7 l = 5) = decide (hiP y) := by
  by_cases hy : hiP y
  ·rw [decide_eq_true hy] at ht ⊢
   have ht : p7 l = 5 := ht
   rw [ht]; exact ⟨.inr rfl, rfl⟩
  ·rw [decide_eq_false hy] at ht ⊢
   have ht : p7 l = 4 := ht
   rw [ht]; exact ⟨.inl rfl, rfl⟩
 have hs : sh1 l := ⟨hl, ht'.1⟩
 have hX : ofP (nX l) = x := by rw [hx]; exact r9 x
 have hY : sy1 (sV (ofP (nX l))) (decide (p7 l = 5)) = y := by rw [hX, ht'.2]; exact Sa h
 refine ⟨.inr (.inl ⟨hs, by rw [hx]; exact x.isLt, by rw [hX, ← h]; exact LQ y, by rw [hY, hX]; exact hg⟩), ?_, ?_, tt hs⟩
 ·exact (if_neg (tt hs)).trans hX
 ·exact (if_neg (tt hs)).trans ((if_pos hl).trans hY)
theorem JS (x y : Fin Pp) (h : y * y = sV x) (hg : rp (x.val, y.val, false)) : ok1 (putL1 x y false false) /\ gx1 (putL1 x y false false) = x /\ gy1 (putL1 x y false false) = y /\ ¬ tX (putL1 x y false false) := by
 obtain ⟨ht, hm⟩ := Ah x y false false
 have hl : (putL1 x y false false).length = 96 := vw x y false false
 generalize putL1 x y false false = l at *
 have hx : nX l = x.val := Te hm
 have hy : nY l = y.val := UE hm
 have hs : lo1 l := ⟨hl, ht.trans (by cases decide (hiP y) <;> rfl)⟩
 have hX : ofP (nX l) = x := by rw [hx]; exact r9 x
 have hY : ofP (nY l) = y := by rw [hy]; exact r9 y
 refine ⟨.inr (.inr ⟨hs, ⟨by rw [hx]; exact x.isLt, by rw [hy]; exact y.isLt⟩, ?_, by rw [hX, hY]; exact hg⟩), ?_, ?_, tv hs⟩
 ·rw [hX, hY]
  show is1 x.val /\ is1 y.val /\ ofP y.val * ofP y.val = sV (ofP x.val)
  rw [r9, r9]
  exact ⟨x.isLt, y.isLt, h⟩
 ·exact (if_neg (tv hs)).trans hX
 ·exact (if_neg (tv hs)).trans ((if_neg (by omega)).trans hY)
theorem abr (x y : Fin Pp) (i s : Bool) (h : may1 (x.val, y.val, i)) (hg : rp (x.val, y.val, i)) : ok1 (putL1 x y i s) /\ gx1 (putL1 x y i s) = x /\ gy1 (putL1 x y i s) = y /\ decide (tX (putL1 x y i s)) = i := by
 cases i with
 | true =>
  obtain ⟨h1, h2⟩ : x.val = 0 /\ y.val = 0 := h
  obtain rfl : x = 0 := Fin.ext h1
  obtain rfl : y = 0 := Fin.ext h2
  obtain ⟨h3, h4⟩ := L6 s
  exact ⟨h3, if_pos h4, if_pos h4, decide_eq_true h4⟩
 | false =>
  have h : is1 x.val /\ is1 y.val /\ ofP y.val * ofP y.val = sV (ofP x.val) := h
  have h := h.2.2
  rw [r9, r9] at h
  cases s with
  | true =>
   obtain ⟨a, b, c, d⟩ := HI x y h hg
   exact ⟨a, b, c, decide_eq_false d⟩
  | false =>
   obtain ⟨a, b, c, d⟩ := JS x y h hg
   exact ⟨a, b, c, decide_eq_false d⟩
end Go.Proofs.YtokjhbmmdmeafaaGreat
set_option linter.unusedSimpArgs false
set_option linter.unusedVariables false
namespace Go.Proofs.YtokjhbmmdmeafaaGreat
open Go.Ev Go.RowKit
open Tryz
def ub (l : LU0) : Prop := (l.length = 96 /\ p7 l = 6) ∨ (l.length = 192 /\ p7 l = 2)
instance (l : LU0) : Decidable (ub l) := inferInstanceAs (Decidable (_ ∨ _))
def xs2 (l : LU0) : F2 := (ofP (c2 l 1), ofP (c2 l 0))
def ys2 (l : LU0) : F2 := (ofP (c2 l 3), ofP (c2 l 2))
def nn (a : F2) : N2 := (a.1.val, a.2.val)
def gx2 (l : LU0) : F2 := if ub l then (0, 0) else xs2 l
def gy2 (l : LU0) : F2 := if ub l then (0, 0) else if l.length = 96 then sy2 (se (xs2 l)) (decide (p7 l = 5)) else ys2 l
def ok2 (l : LU0) : Prop :=
 (ub l /\ te (pY l)) ∨ (sh2 l /\ (c2 l 0 < Pp /\ c2 l 1 < Pp) /\ sq2 (se (xs2 l)) /\ rm (nn (xs2 l), nn (sy2 (se (xs2 l)) (decide (p7 l = 5))), false)) ∨
  (lo2 l /\ (c2 l 0 < Pp /\ c2 l 1 < Pp /\ c2 l 2 < Pp /\ c2 l 3 < Pp) /\ may2 (nn (xs2 l), nn (ys2 l), false) /\ rm (nn (xs2 l), nn (ys2 l), false))
def z25 : List Ch := [.c (.int .u64 0), .c (.int .u64 0), .c (.int .u64 0), .c (.int .u64 0), .c (.int .u64 0), .c (.int .u64 0), .c (.int .u64 0), .c (.int .u64 0), .c (.int .u64 0), .c (.int .u64 0), .c (.int .u64 0), .c (.int .u64 0), .c (.int .u64 0), .c (.int .u64 0), .c (.int .u64 0), .c (.int .u64 0), .c (.int .u64 0), .c (.int .u64 0), .c (.int .u64 0), .c (.int .u64 0), .c (.int .u64 0), .c (.int .u64 0), .c (.int .u64 0), .c (.int .u64 0), .c (.bool false)]
def cd2 (l : LU0) (k : Int) : Prop := k ≠ 0 /\ Gives prog 33 [.t (.v (.string (ofL l)))] (.tp [.ag z25, vi0 k])
theorem at2 (l : LU0) (i : Nat) {c : Option Prop} {r : AV} (h : (altG2 l)[i]? = some (c, r)) (hc : c.getD True) : Gives prog 33 [.t (.v (.string (ofL l)))] r := R8 l c r (List.mem_of_getElem? h) hc
theorem form2 {l : LU0} (h0 : ¬ (l.length ≠ 96 /\ l.length ≠ 192)) (hs : ¬ ((l.length = 96 /\ p7 l ≠ 4 /\ p7 l ≠ 5 /\ p7 l ≠ 6) ∨ (l.length = 192 /\ p7 l ≠ 0 /\ p7 l ≠ 2))) (hi : ¬ ub l) : sh2 l ∨ lo2 l := by
 unfold sh2 lo2
 unfold ub at hi
 omega
theorem sZ {l : LU0} (h : sh2 l) : ¬ ub l := by unfold ub; unfold sh2 at h; omega
theorem sS {l : LU0} (h : lo2 l) : ¬ ub l := by unfold ub; unfold lo2 at h; omega
theorem TY : AV.val? (.tp [.ag [.c (.int .u64 0), .c (.int .u64 0), .c (.int .u64 0), .c (.int .u64 0), .c (.int .u64 0), .c (.int .u64 0), .c (.int .u64 0), .c (.int .u64 0), .c (.int .u64 0), .c (.int .u64 0), .c (.int .u64 0), .c (.int .u64 0), .c (.int .u64 0), .c (.int .u64 0), .c (.int .u64 0), .c (.int .u64 0), .c (.int .u64 0), .c (.int .u64 0), .c (.int .u64 0), .c (.int .u64 0), .c (.int .u64 0), .c (.int .u64 0), .c (.int .u64 0), .c (.int .u64 0), .c (.bool true)], vi0 0]) = AV.val? (.tp [.ag [.q ((0, 0) : F2).1, .q ((0, 0) : F2).2, .q ((0, 0) : F2).1, .q ((0, 0) : F2).2, .c (.bool true)], vi0 0]) := rfl
theorem ZN (l : LU0) (h : ok2 l) : Gives prog 33 [.t (.v (.string (ofL l)))] (.tp [.ag [.q (gx2 l).1, .q (gx2 l).2, .q (gy2 l).1, .q (gy2 l).2, .c (.bool (decide (ub l)))], vi0 0]) := by
 rcases h with ⟨hi, hz⟩ | ⟨s, h⟩ | ⟨s, h⟩
 ·rw [show gx2 l = (0, 0) from if_pos hi, show gy2 l = (0, 0) from if_pos hi, show decide (ub l) = true from decide_eq_true hi]
  exact Gives.same (at2 l 3 rfl ⟨hi, hz⟩) TY
 ·rw [show gx2 l = _ from if_neg (sZ s), show gy2 l = _ from if_neg (sZ s), show decide (ub l) = false from decide_eq_false (sZ s), if_pos s.1]
  exact at2 l 7 rfl ⟨s, h⟩
 ·rw [show gx2 l = _ from if_neg (sS s), show gy2 l = _ from if_neg (sS s), show decide (ub l) = false from decide_eq_false (sS s), if_neg (by have := s.1; omega)]
  exact at2 l 11 rfl ⟨s, h⟩
theorem acU : decide (hi2 (0, 0)) = false := decide_eq_false F3
theorem KM (x : F2) (r : LU0) : (b2 x ++ r).take 48 = b1 x.2 := by
 rw [show b2 x ++ r = b1 x.2 ++ (b1 x.1 ++ r) from List.append_assoc _ _ _, Cb]
theorem BY (x : F2) (r : LU0) : (b2 x ++ r).drop 48 = b1 x.1 ++ r := by
 rw [show b2 x ++ r = b1 x.2 ++ (b1 x.1 ++ r) from List.append_assoc _ _ _, B3]
theorem O0 {l : LU0} {x : F2} (h : c2 l 0 = x.2.val /\ c2 l 1 = x.1.val) : xs2 l = x := by
 unfold xs2; rw [h.1, h.2, r9, r9]
theorem Yz {l : LU0} {y : F2} (h : c2 l 2 = y.2.val /\ c2 l 3 = y.1.val) : ys2 l = y := by
 unfold ys2; rw [h.1, h.2, r9, r9]
theorem aaY {l : LU0} {x : F2} {r : LU0} (h : pY l = b2 x ++ r) : c2 l 0 = x.2.val /\ c2 l 1 = x.1.val := by
 refine ⟨?_, ?_⟩
 ·show deN 48 ((pY l).take 48) = _
  rw [h, KM, CB]
 ·show deN 48 (((pY l).drop 48).take 48) = _
  rw [h, BY, Cb, CB]
theorem acR {l : LU0} {x y : F2} (h : pY l = b2 x ++ b2 y) : c2 l 2 = y.2.val /\ c2 l 3 = y.1.val := by
 have e := List.append_nil (b2 y)
 refine ⟨?_, ?_⟩
 ·show deN 48 ((((pY l).drop 48).drop 48).take 48) = _
  rw [h, BY, B3, ← e, KM, CB]
 ·show deN 48 (((((pY l).drop 48).drop 48).drop 48).take 48) = _
  rw [h, BY, B3, ← e, BY, Cb, CB]
theorem M3 (s : Bool) : ok2 (putL2 (0, 0) (0, 0) true s) /\ ub (putL2 (0, 0) (0, 0) true s) := by
 obtain ⟨ht, hm⟩ := AK (0, 0) (0, 0) true s
 have hl := vP (0, 0) (0, 0) true s
 rw [acU] at ht
 have hi : ub (putL2 (0, 0) (0, 0) true s) := by
  unfold ub
  cases s
  ·exact .inr ⟨hl, ht⟩
  ·exact .inl ⟨hl, ht⟩
 refine ⟨.inl ⟨hi, ?_⟩, hi⟩
 rw [hm]
 intro b hb
 cases s
 ·have hb : b ∈ (b1 0 ++ b1 0) ++ (b1 0 ++ b1 0) := hb
  rw [Uu, List.replicate_append_replicate, List.replicate_append_replicate] at hb
  exact List.eq_of_mem_replicate hb
 ·have hb : b ∈ b1 0 ++ b1 0 := hb
  rw [Uu, List.replicate_append_replicate] at hb
  exact List.eq_of_mem_replicate hb
theorem PQ {x y : F2} (h : qh y y = se x) : sy2 (se x) (decide (hi2 y)) = y := by
 rw [← h]
 by_cases hy : hi2 y
 ·rw [decide_eq_true hy]
  show sj (rt2 (qh y y)) = y
  rw [D6, show BO y = sj y from if_pos hy]; exact z4 y
 ·rw [decide_eq_false hy]
  show rt2 (qh y y) = y
  rw [D6, show BO y = y from if_neg hy]
theorem GH (x y : F2) (h : qh y y = se x) (hg : rm (nn x, nn y, false)) : ok2 (putL2 x y false true) /\ gx2 (putL2 x y false true) = x /\ gy2 (putL2 x y false true) = y /\ ¬ ub (putL2 x y false true) := by
 obtain ⟨ht, hm⟩ := AK x y false true
 have hl : (putL2 x y false true).length = 96 := vP x y false true
 generalize putL2 x y false true = l at *
 have hc := aaY (r := []) (hm.trans (List.append_nil _).symm)
 have hX := O0 hc
 have ht' : (p7 l = 4 ∨ p7 l = 5) /\ decide (p7 l = 5) = decide (hi2 y) := by
  by_cases hy : hi2 y
  ·rw [decide_eq_true hy] at ht ⊢
   have ht : p7 l = 5 := ht
   rw [ht]; exact ⟨.inr rfl, rfl⟩
  ·rw [decide_eq_false hy] at ht ⊢
   have ht : p7 l = 4 := ht
   rw [ht]; exact ⟨.inl rfl, rfl⟩
 have hs : sh2 l := ⟨hl, ht'.1⟩
 have hY : sy2 (se (xs2 l)) (decide (p7 l = 5)) = y := by rw [hX, ht'.2]; exact PQ h
 refine ⟨.inr (.inl ⟨hs, ⟨by rw [hc.1]; exact x.2.isLt, by rw [hc.2]; exact x.1.isLt⟩, by rw [hX, ← h]; exact PT y, by rw [hY, hX]; exact hg⟩), ?_, ?_, sZ hs⟩
 ·exact (if_neg (sZ hs)).trans hX
 ·exact (if_neg (sZ hs)).trans ((if_pos hl).trans hY)
theorem Li (x : F2) : of2 (nn x) = x := CO x
theorem Jq (x y : F2) (h : qh y y = se x) (hg : rm (nn x, nn y, false)) : ok2 (putL2 x y false false) /\ gx2 (putL2 x y false false) = x /\ gy2 (putL2 x y false false) = y /\ ¬ ub (putL2 x y false false) := by
 obtain ⟨ht, hm⟩ := AK x y false false
 have hl : (putL2 x y false false).length = 192 := vP x y false false
 generalize putL2 x y false false = l at *
 have hc := aaY hm
 have hd := acR hm
 have hs : lo2 l := ⟨hl, ht.trans (by cases decide (hi2 y) <;> rfl)⟩
 have hX := O0 hc
 have hY := Yz hd
 refine ⟨.inr (.inr ⟨hs, ⟨by rw [hc.1]; exact x.2.isLt, by rw [hc.2]; exact x.1.isLt, by rw [hd.1]; exact y.2.isLt, by rw [hd.2]; exact y.1.isLt⟩, ?_, by rw [hX, hY]; exact hg⟩), ?_, ?_, sS hs⟩
 ·rw [hX, hY]
  show is2 (nn x) /\ is2 (nn y) /\ qh (of2 (nn y)) (of2 (nn y)) = se (of2 (nn x))
  rw [Li, Li]
  exact ⟨⟨x.1.isLt, x.2.isLt⟩, ⟨y.1.isLt, y.2.isLt⟩, h⟩
 ·exact (if_neg (sS hs)).trans hX
 ·exact (if_neg (sS hs)).trans ((if_neg (by omega)).trans hY)
theorem Lv {x : F2} (h : nn x = (0, 0)) : x = (0, 0) := by
 have h1 : x.1.val = 0 := congrArg Prod.fst h
 have h2 : x.2.val = 0 := congrArg Prod.snd h
 exact vq (Fin.ext h1) (Fin.ext h2)
theorem aal (x y : F2) (i s : Bool) (h : may2 (nn x, nn y, i)) (hg : rm (nn x, nn y, i)) : ok2 (putL2 x y i s) /\ gx2 (putL2 x y i s) = x /\ gy2 (putL2 x y i s) = y /\ decide (ub (putL2 x y i s)) = i := by
 cases i with
 | true =>
  obtain ⟨h1, h2⟩ : nn x = (0, 0) /\ nn y = (0, 0) := h
  obtain rfl := Lv h1
  obtain rfl := Lv h2
  obtain ⟨h3, h4⟩ := M3 s
  exact ⟨h3, if_pos h4, if_pos h4, decide_eq_true h4⟩
 | false =>
  have h : is2 (nn x) /\ is2 (nn y) /\ qh (of2 (nn y)) (of2 (nn y)) = se (of2 (nn x)) := h
  have h := h.2.2
  rw [Li, Li] at h
  cases s with
  | true =>
   obtain ⟨a, b, c, d⟩ := GH x y h hg
   exact ⟨a, b, c, decide_eq_false d⟩
  | false =>
   obtain ⟨a, b, c, d⟩ := Jq x y h hg
   exact ⟨a, b, c, decide_eq_false d⟩
end Go.Proofs.YtokjhbmmdmeafaaGreat
