/- Pruned: Gd. -/
import Derived.Test.YtokjhbmmdmeafaaGreatQGe
import Derived.Test.YtokjhbmmdmeafaaGreatQGc
import Derived.Test.YtokjhbmmdmeafaaGreatQGb
import Derived.Test.YtokjhbmmdmeafaaGreatQHa
set_option linter.unusedSimpArgs false
set_option linter.unusedVariables false
namespace Go.Proofs.YtokjhbmmdmeafaaGreat
open Go.Ev Go.RowKit
open Tryz
def c2 (l : LU0) (i : Nat) : Nat := match i with
 | 0 => deN 48 ((pr l).take 48)
 | 1 => deN 48 (((pr l).drop 48).take 48)
 | 2 => deN 48 ((((pr l).drop 48).drop 48).take 48)
 | _ => deN 48 (((((pr l).drop 48).drop 48).drop 48).take 48)
def sy2 (a : F2) (high : Bool) : F2 := match high with | true => r9 (rt2 a) | false => rt2 a
abbrev Ck : List Ch := [.c (.int .u64 0), .c (.int .u64 0), .c (.int .u64 0), .c (.int .u64 0), .c (.int .u64 0), .c (.int .u64 0), .c (.int .u64 0), .c (.int .u64 0), .c (.int .u64 0), .c (.int .u64 0), .c (.int .u64 0), .c (.int .u64 0), .c (.int .u64 0), .c (.int .u64 0), .c (.int .u64 0), .c (.int .u64 0), .c (.int .u64 0), .c (.int .u64 0), .c (.int .u64 0), .c (.int .u64 0), .c (.int .u64 0), .c (.int .u64 0), .c (.int .u64 0), .c (.int .u64 0), .c (.bool false)]
abbrev p8 (l : LU0) : List XV := [.t (.v (.string (ofL l)))]
theorem p6 {a : List XV} {r : AV} {b : Prop} (o : LO0) (hb : b) (h : fnA prog (qz _) [LI, Bv, AH, qZ, rZ, sE, Ia, Cf, yx, CK, OY] 2 (oL o) f33 a = some (r, b) := by kernel_rfl) (hv : ∃ v, r.val? = some v := by exact ⟨_, rfl⟩) : Gives prog 33 a r := pz (P := prog) (X := qz _) (env := [LI, Bv, AH, qZ, rZ, sE, Ia, Cf, yx, CK, OY]) ⟨LG, Cm, tq, qn, qu, qe, Ll, yE, tO, yh, Qd, tt0⟩ func33 2 (oL o) h hv hb
theorem Rv (l : LU0) (h : l.length ≠ 96 /\ l.length ≠ 192) : Gives prog 33 (p8 l) (.tp [.ag Ck, vi0 3]) :=
 p6 [(3, wO 0)] (ai (show l.length ≠ 96 /\ l.length ≠ 192 from h) tt0)
theorem Qk (l : LU0) (h : (l.length = 96 /\ px l ≠ 4 /\ px l ≠ 5 /\ px l ≠ 6) ∨ (l.length = 192 /\ px l ≠ 0 /\ px l ≠ 2)) : Gives prog 33 (p8 l) (.tp [.ag Ck, vi0 32]) :=
 p6 [(3, wO 1)] (ai (show (l.length = 96 /\ px l ≠ 4 /\ px l ≠ 5 /\ px l ≠ 6) ∨ (l.length = 192 /\ px l ≠ 0 /\ px l ≠ 2) from h) tt0)
theorem Mp (l : LU0) (h : ((l.length = 96 /\ px l = 6) ∨ (l.length = 192 /\ px l = 2)) /\ ¬ sf (pr l)) : Gives prog 33 (p8 l) (.tp [.ag Ck, vi0 33]) :=
 p6 [(3, wO 2)] (ai (show ((l.length = 96 /\ px l = 6) ∨ (l.length = 192 /\ px l = 2)) /\ ¬ sf (pr l) from h) tt0)
abbrev MX : AV := .tp [.ag [.c (.int .u64 0), .c (.int .u64 0), .c (.int .u64 0), .c (.int .u64 0), .c (.int .u64 0), .c (.int .u64 0), .c (.int .u64 0), .c (.int .u64 0), .c (.int .u64 0), .c (.int .u64 0), .c (.int .u64 0), .c (.int .u64 0), .c (.int .u64 0), .c (.int .u64 0), .c (.int .u64 0), .c (.int .u64 0), .c (.int .u64 0), .c (.int .u64 0), .c (.int .u64 0), .c (.int .u64 0), .c (.int .u64 0), .c (.int .u64 0), .c (.int .u64 0), .c (.int .u64 0), .c (.bool true)], vi0 0]
theorem SB (l : LU0) (h : (l.length = 96 /\ px l = 6) /\ sf (pr l)) : Gives prog 33 (p8 l) MX :=
 p6 [(3, wO 6)] (ai (show (l.length = 96 /\ px l = 6) /\ sf (pr l) from h) tt0)
theorem SE (l : LU0) (h : (l.length = 192 /\ px l = 2) /\ sf (pr l)) : Gives prog 33 (p8 l) MX :=
 p6 [(3, wO 7)] (ai (show (l.length = 192 /\ px l = 2) /\ sf (pr l) from h) tt0)
theorem zP (l : LU0) (hL : l.length = 96) : (((ofL (((pr l).drop 48).drop 48)).size : Nat) : Int) = ((0 : Nat) : Int) := by rw [show (ofL (((pr l).drop 48).drop 48)).size = 0 from (show ((((pr l).drop 48).drop 48)).length = 0 from by simp [pB, hL])]
theorem vP (l : LU0) (hL : l.length = 96) : (0 : Int) <= 48 /\ (48 : Int) <= (ofL ((pr l).drop 48)).size := ⟨by decide, by rw [show (ofL ((pr l).drop 48)).size = 48 from (show (((pr l).drop 48)).length = 48 from by simp [pB, hL])]; decide⟩
theorem Jf (l : LU0) (hL : l.length = 96) (h1 : c2 l 1 < 4002409555221667393417789825735904156556882819939007885332058136124031650490837864442687629129015664037894272559787) : (((pr l).drop 48).take 48).length = 48 /\ deN 48 (((pr l).drop 48).take 48) < 4002409555221667393417789825735904156556882819939007885332058136124031650490837864442687629129015664037894272559787 := ⟨by simp [pB, hL], h1⟩
theorem Jd (l : LU0) (hL : l.length = 96) : (((ofL ((pr l).drop 48)).size : Nat) : Int) = ((48 : Nat) : Int) := by rw [show (ofL ((pr l).drop 48)).size = 48 from (show (((pr l).drop 48)).length = 48 from by simp [pB, hL])]
theorem zQ (l : LU0) (hL : l.length = 96) : (0 : Int) <= 48 /\ (48 : Int) <= (ofL (pr l)).size := ⟨by decide, by rw [show (ofL (pr l)).size = 96 from (show ((pr l)).length = 96 from by simp [pB, hL])]; decide⟩
theorem Tl (l : LU0) (hL : l.length = 96) (h0 : c2 l 0 < 4002409555221667393417789825735904156556882819939007885332058136124031650490837864442687629129015664037894272559787) : ((pr l).take 48).length = 48 /\ deN 48 ((pr l).take 48) < 4002409555221667393417789825735904156556882819939007885332058136124031650490837864442687629129015664037894272559787 := ⟨by simp [pB, hL], h0⟩
theorem IV (l : LU0) (hL : l.length = 96) : (((ofL (pr l)).size : Nat) : Int) = ((96 : Nat) : Int) := by rw [show (ofL (pr l)).size = 96 from (show ((pr l)).length = 96 from by simp [pB, hL])]
theorem Ta (l : LU0) (hL : l.length = 96) (ht : px l = 4) : l.length = 96 /\ px l = 4 := ⟨hL, ht⟩
abbrev yA (l : LU0) := ((ofP (deN 48 (((pr l).drop 48).take 48)), ofP (deN 48 ((pr l).take 48))) : F2)
abbrev vN (l : LU0) := qt (pM (pM (yA l) (yA l)) (yA l)) (ofP (4 % 18446744073709551616), ofP (4 % 18446744073709551616))
abbrev rP (l : LU0) : Prop := c2 l 1 < 4002409555221667393417789825735904156556882819939007885332058136124031650490837864442687629129015664037894272559787
abbrev re (l : LU0) : Prop := c2 l 0 < 4002409555221667393417789825735904156556882819939007885332058136124031650490837864442687629129015664037894272559787
def uE : Ora := { ch := 1, hi := fun _ => 96 }
def r7 : Ora := { ch := 1, hi := fun _ => 48 }
def rD : Ora := { ch := 1, hi := fun _ => 0 }
def Qc {l : LU0} (hL : l.length = 96) (ht : px l = 4) (h0 : re l) := PLift.up (ai (vP l hL) (ai (Jd l hL) (ai (zQ l hL) (ai (Tl l hL h0) (ai (zQ l hL) (ai (IV l hL) (ai (Ta l hL ht) tt0)))))))
def HG {l : LU0} (hL : l.length = 96) (ht : px l = 4) (h0 : re l) (h1 : rP l) := PLift.up (ai (zP l hL) (ai (vP l hL) (ai (Jf l hL h1)
   (Qc hL ht h0).down)))
abbrev HO : AV := .tp [.ag Ck, vi0 30]
def Ik : LO0 := [(3, wO 3), (29, uE), (36, rO 5 0), (37, wO 1), (45, rO 5 0), (57, r7), (64, rO 5 0), (65, wO 1), (73, rO 5 0), (85, rD)]
theorem O1 (l : LU0) (hL : l.length = 96) (ht : px l = 4) (h0 : re l) (h1 : rP l) (hq : ¬ sq2 (vN l)) : Gives prog 33 (p8 l) HO :=
 p6 (Ik ++ [(129, wO 1)]) (ai (show ¬ sq2 (vN l) from hq)
   (HG hL ht h0 h1).down)
theorem Jy (l : LU0) (hq : sq2 (qt (pM (pM ((ofP (deN 48 (((pr l).drop 48).take 48)), ofP (deN 48 ((pr l).take 48))) : F2) ((ofP (deN 48 (((pr l).drop 48).take 48)), ofP (deN 48 ((pr l).take 48))) : F2)) ((ofP (deN 48 (((pr l).drop 48).take 48)), ofP (deN 48 ((pr l).take 48))) : F2)) (ofP (4 % 18446744073709551616), ofP (4 % 18446744073709551616)))) : sq2 (qt (pM (pM ((ofP (deN 48 (((pr l).drop 48).take 48)), ofP (deN 48 ((pr l).take 48))) : F2) ((ofP (deN 48 (((pr l).drop 48).take 48)), ofP (deN 48 ((pr l).take 48))) : F2)) ((ofP (deN 48 (((pr l).drop 48).take 48)), ofP (deN 48 ((pr l).take 48))) : F2)) (ofP (4 % 18446744073709551616), ofP (4 % 18446744073709551616))) := hq
abbrev r8 (l : LU0) := (((yA l).1.val, (yA l).2.val), ((rt2 (vN l)).1.val, (rt2 (vN l)).2.val), false)
abbrev HD : AV := .tp [.ag Ck, vi0 31]
theorem P7 (l : LU0) (hL : l.length = 96) (ht : px l = 4) (h0 : re l) (h1 : rP l) (hq : sq2 (vN l)) (hg : sml2 (r8 l) /\ may2 (r8 l) /\ ¬ sB (r8 l)) : Gives prog 33 (p8 l) HD :=
 p6 (Ik ++ [(129, wO 0), (146, wO 0), (150, wO 1)]) (ai (show sml2 (r8 l) /\ may2 (r8 l) /\ ¬ sB (r8 l) from hg) (ai (show sml2 (r8 l) /\ may2 (r8 l) from ⟨hg.1, hg.2.1⟩) (ai (Jy l hq)
   (HG hL ht h0 h1).down)))
theorem LA (l : LU0) (hL : l.length = 96) (ht : px l = 4) (h0 : re l) (h1 : rP l) (hq : sq2 (vN l)) (hg : sml2 (r8 l) /\ may2 (r8 l) /\ sB (r8 l)) : Gives prog 33 (p8 l) (.tp [.ag [.q ((ofP (deN 48 (((pr l).drop 48).take 48)), ofP (deN 48 ((pr l).take 48))) : F2).1, .q ((ofP (deN 48 (((pr l).drop 48).take 48)), ofP (deN 48 ((pr l).take 48))) : F2).2, .q (rt2 (qt (pM (pM ((ofP (deN 48 (((pr l).drop 48).take 48)), ofP (deN 48 ((pr l).take 48))) : F2) ((ofP (deN 48 (((pr l).drop 48).take 48)), ofP (deN 48 ((pr l).take 48))) : F2)) ((ofP (deN 48 (((pr l).drop 48).take 48)), ofP (deN 48 ((pr l).take 48))) : F2)) (ofP (4 % 18446744073709551616), ofP (4 % 18446744073709551616)))).1, .q (rt2 (qt (pM (pM ((ofP (deN 48 (((pr l).drop 48).take 48)), ofP (deN 48 ((pr l).take 48))) : F2) ((ofP (deN 48 (((pr l).drop 48).take 48)), ofP (deN 48 ((pr l).take 48))) : F2)) ((ofP (deN 48 (((pr l).drop 48).take 48)), ofP (deN 48 ((pr l).take 48))) : F2)) (ofP (4 % 18446744073709551616), ofP (4 % 18446744073709551616)))).2, .c (.bool false)], vi0 0]) :=
 p6 (Ik ++ [(129, wO 0), (146, wO 0), (150, wO 0)]) (ai (show sml2 (r8 l) /\ may2 (r8 l) /\ sB (r8 l) from hg) (ai (show sml2 (r8 l) /\ may2 (r8 l) from ⟨hg.1, hg.2.1⟩) (ai (Jy l hq)
   (HG hL ht h0 h1).down)))
theorem Jn (l : LU0) (hL : l.length = 96) (h1 : 4002409555221667393417789825735904156556882819939007885332058136124031650490837864442687629129015664037894272559787 <= c2 l 1) : (((pr l).drop 48).take 48).length = 48 /\ 4002409555221667393417789825735904156556882819939007885332058136124031650490837864442687629129015664037894272559787 <= deN 48 (((pr l).drop 48).take 48) := ⟨by simp [pB, hL], h1⟩
abbrev tZ (l : LU0) : Prop := 4002409555221667393417789825735904156556882819939007885332058136124031650490837864442687629129015664037894272559787 <= c2 l 1
abbrev qT : AV := .tp [.ag Ck, vi0 20]
theorem HJ (l : LU0) (hL : l.length = 96) (ht : px l = 4) (h0 : re l) (h1 : tZ l) : Gives prog 33 (p8 l) qT :=
 p6 [(3, wO 3), (29, uE), (36, rO 5 0), (37, wO 1), (45, rO 5 0), (57, r7), (64, rO 5 0), (65, wO 2), (73, rO 5 0), (85, rD)] (ai (zP l hL) (ai (vP l hL) (ai (Jn l hL h1)
   (Qc hL ht h0).down)))
theorem Pm (l : LU0) (hL : l.length = 96) (h0 : 4002409555221667393417789825735904156556882819939007885332058136124031650490837864442687629129015664037894272559787 <= c2 l 0) : ((pr l).take 48).length = 48 /\ 4002409555221667393417789825735904156556882819939007885332058136124031650490837864442687629129015664037894272559787 <= deN 48 ((pr l).take 48) := ⟨by simp [pB, hL], h0⟩
abbrev sc (l : LU0) : Prop := 4002409555221667393417789825735904156556882819939007885332058136124031650490837864442687629129015664037894272559787 <= c2 l 0
def Md {l : LU0} (hL : l.length = 96) (ht : px l = 4) (h0 : sc l) := PLift.up (ai (vP l hL) (ai (Jd l hL) (ai (zQ l hL) (ai (Pm l hL h0) (ai (zQ l hL) (ai (IV l hL) (ai (Ta l hL ht) tt0)))))))
def Pi : LO0 := [(3, wO 3), (29, uE), (36, rO 5 0), (37, wO 2), (45, rO 5 0), (57, r7), (64, rO 5 0)]
theorem GF (l : LU0) (hL : l.length = 96) (ht : px l = 4) (h0 : sc l) (h1 : rP l) : Gives prog 33 (p8 l) qT :=
 p6 (Pi ++ [(65, wO 1), (73, rO 5 0), (83, rD)]) (ai (zP l hL) (ai (vP l hL) (ai (Jf l hL h1)
   (Md hL ht h0).down)))
theorem H7 (l : LU0) (hL : l.length = 96) (ht : px l = 4) (h0 : sc l) (h1 : tZ l) : Gives prog 33 (p8 l) qT :=
 p6 (Pi ++ [(65, wO 2), (73, rO 5 0), (83, rD)]) (ai (zP l hL) (ai (vP l hL) (ai (Jn l hL h1)
   (Md hL ht h0).down)))
theorem O0 (l : LU0) (hL : l.length = 96) (ht : px l = 5) : l.length = 96 /\ px l = 5 := ⟨hL, ht⟩
def NV {l : LU0} (hL : l.length = 96) (ht : px l = 5) (h0 : re l) := PLift.up (ai (vP l hL) (ai (Jd l hL) (ai (zQ l hL) (ai (Tl l hL h0) (ai (zQ l hL) (ai (IV l hL) (ai (O0 l hL ht) tt0)))))))
def H2 {l : LU0} (hL : l.length = 96) (ht : px l = 5) (h0 : re l) (h1 : rP l) := PLift.up (ai (zP l hL) (ai (vP l hL) (ai (Jf l hL h1)
   (NV hL ht h0).down)))
def Ix : LO0 := [(3, wO 4), (29, uE), (36, rO 5 0), (37, wO 1), (45, rO 5 0), (57, r7), (64, rO 5 0), (65, wO 1), (73, rO 5 0), (85, rD)]
theorem P8 (l : LU0) (hL : l.length = 96) (ht : px l = 5) (h0 : re l) (h1 : rP l) (hq : ¬ sq2 (vN l)) : Gives prog 33 (p8 l) HO :=
 p6 (Ix ++ [(129, wO 1)]) (ai (show ¬ sq2 (vN l) from hq)
   (H2 hL ht h0 h1).down)
abbrev tj (l : LU0) := (((yA l).1.val, (yA l).2.val), ((r9 (rt2 (vN l))).1.val, (r9 (rt2 (vN l))).2.val), false)
theorem PL (l : LU0) (hL : l.length = 96) (ht : px l = 5) (h0 : re l) (h1 : rP l) (hq : sq2 (vN l)) (hg : sml2 (tj l) /\ may2 (tj l) /\ ¬ sB (tj l)) : Gives prog 33 (p8 l) HD :=
 p6 (Ix ++ [(129, wO 0), (149, wO 0), (153, wO 1)]) (ai (show sml2 (tj l) /\ may2 (tj l) /\ ¬ sB (tj l) from hg) (ai (show sml2 (tj l) /\ may2 (tj l) from ⟨hg.1, hg.2.1⟩) (ai (Jy l hq)
   (H2 hL ht h0 h1).down)))
theorem KC (l : LU0) (hL : l.length = 96) (ht : px l = 5) (h0 : re l) (h1 : rP l) (hq : sq2 (vN l)) (hg : sml2 (tj l) /\ may2 (tj l) /\ sB (tj l)) : Gives prog 33 (p8 l) (.tp [.ag [.q ((ofP (deN 48 (((pr l).drop 48).take 48)), ofP (deN 48 ((pr l).take 48))) : F2).1, .q ((ofP (deN 48 (((pr l).drop 48).take 48)), ofP (deN 48 ((pr l).take 48))) : F2).2, .q (r9 (rt2 (qt (pM (pM ((ofP (deN 48 (((pr l).drop 48).take 48)), ofP (deN 48 ((pr l).take 48))) : F2) ((ofP (deN 48 (((pr l).drop 48).take 48)), ofP (deN 48 ((pr l).take 48))) : F2)) ((ofP (deN 48 (((pr l).drop 48).take 48)), ofP (deN 48 ((pr l).take 48))) : F2)) (ofP (4 % 18446744073709551616), ofP (4 % 18446744073709551616))))).1, .q (r9 (rt2 (qt (pM (pM ((ofP (deN 48 (((pr l).drop 48).take 48)), ofP (deN 48 ((pr l).take 48))) : F2) ((ofP (deN 48 (((pr l).drop 48).take 48)), ofP (deN 48 ((pr l).take 48))) : F2)) ((ofP (deN 48 (((pr l).drop 48).take 48)), ofP (deN 48 ((pr l).take 48))) : F2)) (ofP (4 % 18446744073709551616), ofP (4 % 18446744073709551616))))).2, .c (.bool false)], vi0 0]) :=
 p6 (Ix ++ [(129, wO 0), (149, wO 0), (153, wO 0)]) (ai (show sml2 (tj l) /\ may2 (tj l) /\ sB (tj l) from hg) (ai (show sml2 (tj l) /\ may2 (tj l) from ⟨hg.1, hg.2.1⟩) (ai (Jy l hq)
   (H2 hL ht h0 h1).down)))
theorem GS (l : LU0) (hL : l.length = 96) (ht : px l = 5) (h0 : re l) (h1 : tZ l) : Gives prog 33 (p8 l) qT :=
 p6 [(3, wO 4), (29, uE), (36, rO 5 0), (37, wO 1), (45, rO 5 0), (57, r7), (64, rO 5 0), (65, wO 2), (73, rO 5 0), (85, rD)] (ai (zP l hL) (ai (vP l hL) (ai (Jn l hL h1)
   (NV hL ht h0).down)))
def OT {l : LU0} (hL : l.length = 96) (ht : px l = 5) (h0 : sc l) := PLift.up (ai (vP l hL) (ai (Jd l hL) (ai (zQ l hL) (ai (Pm l hL h0) (ai (zQ l hL) (ai (IV l hL) (ai (O0 l hL ht) tt0)))))))
def Ns : LO0 := [(3, wO 4), (29, uE), (36, rO 5 0), (37, wO 2), (45, rO 5 0), (57, r7), (64, rO 5 0)]
theorem HL (l : LU0) (hL : l.length = 96) (ht : px l = 5) (h0 : sc l) (h1 : rP l) : Gives prog 33 (p8 l) qT :=
 p6 (Ns ++ [(65, wO 1), (73, rO 5 0), (83, rD)]) (ai (zP l hL) (ai (vP l hL) (ai (Jf l hL h1)
   (OT hL ht h0).down)))
theorem Ht (l : LU0) (hL : l.length = 96) (ht : px l = 5) (h0 : sc l) (h1 : tZ l) : Gives prog 33 (p8 l) qT :=
 p6 (Ns ++ [(65, wO 2), (73, rO 5 0), (83, rD)]) (ai (zP l hL) (ai (vP l hL) (ai (Jn l hL h1)
   (OT hL ht h0).down)))
theorem rC (l : LU0) (hL : l.length = 192) : (((ofL (((((pr l).drop 48).drop 48).drop 48).drop 48)).size : Nat) : Int) = ((0 : Nat) : Int) := by rw [show (ofL (((((pr l).drop 48).drop 48).drop 48).drop 48)).size = 0 from (show ((((((pr l).drop 48).drop 48).drop 48).drop 48)).length = 0 from by simp [pB, hL])]
theorem qc (l : LU0) (hL : l.length = 192) : (0 : Int) <= 48 /\ (48 : Int) <= (ofL ((((pr l).drop 48).drop 48).drop 48)).size := ⟨by decide, by rw [show (ofL ((((pr l).drop 48).drop 48).drop 48)).size = 48 from (show (((((pr l).drop 48).drop 48).drop 48)).length = 48 from by simp [pB, hL])]; decide⟩
theorem uL (l : LU0) (hL : l.length = 192) (h3 : c2 l 3 < 4002409555221667393417789825735904156556882819939007885332058136124031650490837864442687629129015664037894272559787) : (((((pr l).drop 48).drop 48).drop 48).take 48).length = 48 /\ deN 48 (((((pr l).drop 48).drop 48).drop 48).take 48) < 4002409555221667393417789825735904156556882819939007885332058136124031650490837864442687629129015664037894272559787 := ⟨by simp [pB, hL], h3⟩
theorem sm (l : LU0) (hL : l.length = 192) : (((ofL ((((pr l).drop 48).drop 48).drop 48)).size : Nat) : Int) = ((48 : Nat) : Int) := by rw [show (ofL ((((pr l).drop 48).drop 48).drop 48)).size = 48 from (show (((((pr l).drop 48).drop 48).drop 48)).length = 48 from by simp [pB, hL])]
theorem rk (l : LU0) (hL : l.length = 192) : (0 : Int) <= 48 /\ (48 : Int) <= (ofL (((pr l).drop 48).drop 48)).size := ⟨by decide, by rw [show (ofL (((pr l).drop 48).drop 48)).size = 96 from (show ((((pr l).drop 48).drop 48)).length = 96 from by simp [pB, hL])]; decide⟩
theorem xT (l : LU0) (hL : l.length = 192) (h2 : c2 l 2 < 4002409555221667393417789825735904156556882819939007885332058136124031650490837864442687629129015664037894272559787) : ((((pr l).drop 48).drop 48).take 48).length = 48 /\ deN 48 ((((pr l).drop 48).drop 48).take 48) < 4002409555221667393417789825735904156556882819939007885332058136124031650490837864442687629129015664037894272559787 := ⟨by simp [pB, hL], h2⟩
theorem D9 (l : LU0) (hL : l.length = 192) : (((ofL (((pr l).drop 48).drop 48)).size : Nat) : Int) = ((96 : Nat) : Int) := by rw [show (ofL (((pr l).drop 48).drop 48)).size = 96 from (show ((((pr l).drop 48).drop 48)).length = 96 from by simp [pB, hL])]
theorem yZ (l : LU0) (hL : l.length = 192) : (0 : Int) <= 48 /\ (48 : Int) <= (ofL ((pr l).drop 48)).size := ⟨by decide, by rw [show (ofL ((pr l).drop 48)).size = 144 from (show (((pr l).drop 48)).length = 144 from by simp [pB, hL])]; decide⟩
theorem MI (l : LU0) (hL : l.length = 192) (h1 : c2 l 1 < 4002409555221667393417789825735904156556882819939007885332058136124031650490837864442687629129015664037894272559787) : (((pr l).drop 48).take 48).length = 48 /\ deN 48 (((pr l).drop 48).take 48) < 4002409555221667393417789825735904156556882819939007885332058136124031650490837864442687629129015664037894272559787 := ⟨by simp [pB, hL], h1⟩
theorem OW (l : LU0) (hL : l.length = 192) : (((ofL ((pr l).drop 48)).size : Nat) : Int) = ((144 : Nat) : Int) := by rw [show (ofL ((pr l).drop 48)).size = 144 from (show (((pr l).drop 48)).length = 144 from by simp [pB, hL])]
theorem Da (l : LU0) (hL : l.length = 192) : (0 : Int) <= 48 /\ (48 : Int) <= (ofL (pr l)).size := ⟨by decide, by rw [show (ofL (pr l)).size = 192 from (show ((pr l)).length = 192 from by simp [pB, hL])]; decide⟩
theorem Us (l : LU0) (hL : l.length = 192) (h0 : c2 l 0 < 4002409555221667393417789825735904156556882819939007885332058136124031650490837864442687629129015664037894272559787) : ((pr l).take 48).length = 48 /\ deN 48 ((pr l).take 48) < 4002409555221667393417789825735904156556882819939007885332058136124031650490837864442687629129015664037894272559787 := ⟨by simp [pB, hL], h0⟩
theorem M9 (l : LU0) (hL : l.length = 192) : (((ofL (pr l)).size : Nat) : Int) = ((192 : Nat) : Int) := by rw [show (ofL (pr l)).size = 192 from (show ((pr l)).length = 192 from by simp [pB, hL])]
theorem L6 (l : LU0) (hL : l.length = 192) (ht : px l = 0) : l.length = 192 /\ px l = 0 := ⟨hL, ht⟩
abbrev ND (l : LU0) := ((ofP (deN 48 (((((pr l).drop 48).drop 48).drop 48).take 48)), ofP (deN 48 ((((pr l).drop 48).drop 48).take 48))) : F2)
abbrev su (l : LU0) := (((yA l).1.val, (yA l).2.val), ((ND l).1.val, (ND l).2.val), false)
def TQ {l : LU0} (hL : l.length = 192) (ht : px l = 0) (h0 : re l) := PLift.up (ai (yZ l hL) (ai (OW l hL) (ai (Da l hL) (ai (Us l hL h0) (ai (Da l hL) (ai (M9 l hL) (ai (L6 l hL ht) tt0)))))))
abbrev uK (l : LU0) : Prop := c2 l 3 < 4002409555221667393417789825735904156556882819939007885332058136124031650490837864442687629129015664037894272559787
abbrev tI (l : LU0) : Prop := c2 l 2 < 4002409555221667393417789825735904156556882819939007885332058136124031650490837864442687629129015664037894272559787
def Hj {l : LU0} (hL : l.length = 192) (ht : px l = 0) (h0 : re l) (h1 : rP l) := PLift.up (ai (rk l hL) (ai (D9 l hL) (ai (yZ l hL) (ai (MI l hL h1)
   (TQ hL ht h0).down))))
def Dv {l : LU0} (hL : l.length = 192) (ht : px l = 0) (h0 : re l) (h1 : rP l) (h2 : tI l) := PLift.up (ai (qc l hL) (ai (sm l hL) (ai (rk l hL) (ai (xT l hL h2)
   (Hj hL ht h0 h1).down))))
def Ij : Nat × Ora := (57, { ch := 1, hi := fun _ => 144 })
def Gx : Nat × Ora := (29, { ch := 1, hi := fun _ => 192 })
def yW : LO0 := [(3, wO 5), Gx, (36, rO 5 0), (37, wO 1), (45, rO 5 0), Ij, (64, rO 5 0), (65, wO 1), (73, rO 5 0), (85, uE), (92, rO 5 0)]
def Gp : LO0 := [(93, wO 1), (101, rO 5 0), (113, r7), (120, rO 5 0), (121, wO 1), (129, rO 5 0), (141, rD)]
theorem R3 (l : LU0) (hL : l.length = 192) (ht : px l = 0) (h0 : re l) (h1 : rP l) (h2 : tI l) (h3 : uK l) (hr : sml2 (su l) /\ ¬ may2 (su l)) : Gives prog 33 (p8 l) HO :=
 p6 (yW ++ Gp ++ [(178, wO 1)]) (ai (show sml2 (su l) /\ ¬ may2 (su l) from hr) (ai (rC l hL) (ai (qc l hL) (ai (uL l hL h3)
   (Dv hL ht h0 h1 h2).down))))
theorem Sw (l : LU0) (hL : l.length = 192) (ht : px l = 0) (h0 : re l) (h1 : rP l) (h2 : tI l) (h3 : uK l) (hg : sml2 (su l) /\ may2 (su l) /\ ¬ sB (su l)) : Gives prog 33 (p8 l) HD :=
 p6 (yW ++ Gp ++ [(178, wO 0), (182, wO 1)]) (ai (show sml2 (su l) /\ may2 (su l) /\ ¬ sB (su l) from hg) (ai (show sml2 (su l) /\ may2 (su l) from ⟨hg.1, hg.2.1⟩) (ai (rC l hL) (ai (qc l hL) (ai (uL l hL h3)
   (Dv hL ht h0 h1 h2).down)))))
theorem Qp (l : LU0) (hL : l.length = 192) (ht : px l = 0) (h0 : re l) (h1 : rP l) (h2 : tI l) (h3 : uK l) (hg : sml2 (su l) /\ may2 (su l) /\ sB (su l)) : Gives prog 33 (p8 l) (.tp [.ag [.q ((ofP (deN 48 (((pr l).drop 48).take 48)), ofP (deN 48 ((pr l).take 48))) : F2).1, .q ((ofP (deN 48 (((pr l).drop 48).take 48)), ofP (deN 48 ((pr l).take 48))) : F2).2, .q ((ofP (deN 48 (((((pr l).drop 48).drop 48).drop 48).take 48)), ofP (deN 48 ((((pr l).drop 48).drop 48).take 48))) : F2).1, .q ((ofP (deN 48 (((((pr l).drop 48).drop 48).drop 48).take 48)), ofP (deN 48 ((((pr l).drop 48).drop 48).take 48))) : F2).2, .c (.bool false)], vi0 0]) :=
 p6 (yW ++ Gp ++ [(178, wO 0), (182, wO 0)]) (ai (show sml2 (su l) /\ may2 (su l) /\ sB (su l) from hg) (ai (show sml2 (su l) /\ may2 (su l) from ⟨hg.1, hg.2.1⟩) (ai (rC l hL) (ai (qc l hL) (ai (uL l hL h3)
   (Dv hL ht h0 h1 h2).down)))))
theorem wq (l : LU0) (hL : l.length = 192) (h3 : 4002409555221667393417789825735904156556882819939007885332058136124031650490837864442687629129015664037894272559787 <= c2 l 3) : (((((pr l).drop 48).drop 48).drop 48).take 48).length = 48 /\ 4002409555221667393417789825735904156556882819939007885332058136124031650490837864442687629129015664037894272559787 <= deN 48 (((((pr l).drop 48).drop 48).drop 48).take 48) := ⟨by simp [pB, hL], h3⟩
abbrev vR (l : LU0) : Prop := 4002409555221667393417789825735904156556882819939007885332058136124031650490837864442687629129015664037894272559787 <= c2 l 3
theorem GY (l : LU0) (hL : l.length = 192) (ht : px l = 0) (h0 : re l) (h1 : rP l) (h2 : tI l) (h3 : vR l) : Gives prog 33 (p8 l) qT :=
 p6 (yW ++ [(93, wO 1), (101, rO 5 0), (113, r7), (120, rO 5 0), (121, wO 2), (129, rO 5 0), (141, rD)]) (ai (rC l hL) (ai (qc l hL) (ai (wq l hL h3)
   (Dv hL ht h0 h1 h2).down)))
theorem wK (l : LU0) (hL : l.length = 192) (h2 : 4002409555221667393417789825735904156556882819939007885332058136124031650490837864442687629129015664037894272559787 <= c2 l 2) : ((((pr l).drop 48).drop 48).take 48).length = 48 /\ 4002409555221667393417789825735904156556882819939007885332058136124031650490837864442687629129015664037894272559787 <= deN 48 ((((pr l).drop 48).drop 48).take 48) := ⟨by simp [pB, hL], h2⟩
abbrev vV (l : LU0) : Prop := 4002409555221667393417789825735904156556882819939007885332058136124031650490837864442687629129015664037894272559787 <= c2 l 2
theorem Hr (l : LU0) (hL : l.length = 192) (ht : px l = 0) (h0 : re l) (h1 : rP l) (h2 : vV l) (h3 : uK l) : Gives prog 33 (p8 l) qT :=
 p6 (yW ++ [(93, wO 2), (101, rO 5 0), (113, r7), (120, rO 5 0), (121, wO 1), (129, rO 5 0), (139, rD)]) (ai (rC l hL) (ai (qc l hL) (ai (uL l hL h3) (ai (qc l hL) (ai (sm l hL) (ai (rk l hL) (ai (wK l hL h2)
   (Hj hL ht h0 h1).down)))))))
theorem Ie (l : LU0) (hL : l.length = 192) (ht : px l = 0) (h0 : re l) (h1 : rP l) (h2 : vV l) (h3 : vR l) : Gives prog 33 (p8 l) qT :=
 p6 (yW ++ [(93, wO 2), (101, rO 5 0), (113, r7), (120, rO 5 0), (121, wO 2), (129, rO 5 0), (139, rD)]) (ai (rC l hL) (ai (qc l hL) (ai (wq l hL h3) (ai (qc l hL) (ai (sm l hL) (ai (rk l hL) (ai (wK l hL h2)
   (Hj hL ht h0 h1).down)))))))
theorem Pe (l : LU0) (hL : l.length = 192) (h1 : 4002409555221667393417789825735904156556882819939007885332058136124031650490837864442687629129015664037894272559787 <= c2 l 1) : (((pr l).drop 48).take 48).length = 48 /\ 4002409555221667393417789825735904156556882819939007885332058136124031650490837864442687629129015664037894272559787 <= deN 48 (((pr l).drop 48).take 48) := ⟨by simp [pB, hL], h1⟩
def DU {l : LU0} (hL : l.length = 192) (ht : px l = 0) (h0 : re l) (h1 : tZ l) := PLift.up (ai (rk l hL) (ai (D9 l hL) (ai (yZ l hL) (ai (Pe l hL h1)
   (TQ hL ht h0).down))))
def C2 : LO0 := [(3, wO 5), Gx, (36, rO 5 0), (37, wO 1), (45, rO 5 0), Ij, (64, rO 5 0), (65, wO 2), (73, rO 5 0), (85, uE), (92, rO 5 0)]
theorem In (l : LU0) (hL : l.length = 192) (ht : px l = 0) (h0 : re l) (h1 : tZ l) (h2 : tI l) (h3 : uK l) : Gives prog 33 (p8 l) qT :=
 p6 (C2 ++ [(93, wO 1), (101, rO 5 0), (111, r7), (118, rO 5 0), (119, wO 1), (127, rO 5 0), (137, rD)]) (ai (rC l hL) (ai (qc l hL) (ai (uL l hL h3) (ai (qc l hL) (ai (sm l hL) (ai (rk l hL) (ai (xT l hL h2)
   (DU hL ht h0 h1).down)))))))
theorem F8 (l : LU0) (hL : l.length = 192) (ht : px l = 0) (h0 : re l) (h1 : tZ l) (h2 : tI l) (h3 : vR l) : Gives prog 33 (p8 l) qT :=
 p6 (C2 ++ [(93, wO 1), (101, rO 5 0), (111, r7), (118, rO 5 0), (119, wO 2), (127, rO 5 0), (137, rD)]) (ai (rC l hL) (ai (qc l hL) (ai (wq l hL h3) (ai (qc l hL) (ai (sm l hL) (ai (rk l hL) (ai (xT l hL h2)
   (DU hL ht h0 h1).down)))))))
theorem HV (l : LU0) (hL : l.length = 192) (ht : px l = 0) (h0 : re l) (h1 : tZ l) (h2 : vV l) (h3 : uK l) : Gives prog 33 (p8 l) qT :=
 p6 (C2 ++ [(93, wO 2), (101, rO 5 0), (111, r7), (118, rO 5 0), (119, wO 1), (127, rO 5 0), (137, rD)]) (ai (rC l hL) (ai (qc l hL) (ai (uL l hL h3) (ai (qc l hL) (ai (sm l hL) (ai (rk l hL) (ai (wK l hL h2)
   (DU hL ht h0 h1).down)))))))
theorem Im (l : LU0) (hL : l.length = 192) (ht : px l = 0) (h0 : re l) (h1 : tZ l) (h2 : vV l) (h3 : vR l) : Gives prog 33 (p8 l) qT :=
 p6 (C2 ++ [(93, wO 2), (101, rO 5 0), (111, r7), (118, rO 5 0), (119, wO 2), (127, rO 5 0), (137, rD)]) (ai (rC l hL) (ai (qc l hL) (ai (wq l hL h3) (ai (qc l hL) (ai (sm l hL) (ai (rk l hL) (ai (wK l hL h2)
   (DU hL ht h0 h1).down)))))))
theorem WI (l : LU0) (hL : l.length = 192) (h0 : 4002409555221667393417789825735904156556882819939007885332058136124031650490837864442687629129015664037894272559787 <= c2 l 0) : ((pr l).take 48).length = 48 /\ 4002409555221667393417789825735904156556882819939007885332058136124031650490837864442687629129015664037894272559787 <= deN 48 ((pr l).take 48) := ⟨by simp [pB, hL], h0⟩
def Te {l : LU0} (hL : l.length = 192) (ht : px l = 0) (h0 : 4002409555221667393417789825735904156556882819939007885332058136124031650490837864442687629129015664037894272559787 <= c2 l 0) := PLift.up (ai (yZ l hL) (ai (OW l hL) (ai (Da l hL) (ai (WI l hL h0) (ai (Da l hL) (ai (M9 l hL) (ai (L6 l hL ht) tt0)))))))
def C8 {l : LU0} (hL : l.length = 192) (ht : px l = 0) (h0 : sc l) (h1 : rP l) := PLift.up (ai (rk l hL) (ai (D9 l hL) (ai (yZ l hL) (ai (MI l hL h1)
   (Te hL ht h0).down))))
def wP : LO0 := [(3, wO 5), Gx, (36, rO 5 0), (37, wO 2), (45, rO 5 0), Ij, (64, rO 5 0)]
def Dx : LO0 := [(65, wO 1), (73, rO 5 0), (83, uE), (90, rO 5 0)]
def Dh : LO0 := [(91, wO 1), (99, rO 5 0), (109, r7), (116, rO 5 0)]
def D6 : LO0 := [(117, wO 1), (125, rO 5 0), (135, rD)]
theorem GH (l : LU0) (hL : l.length = 192) (ht : px l = 0) (h0 : sc l) (h1 : rP l) (h2 : tI l) (h3 : uK l) : Gives prog 33 (p8 l) qT :=
 p6 (wP ++ Dx ++ Dh ++ D6) (ai (rC l hL) (ai (qc l hL) (ai (uL l hL h3) (ai (qc l hL) (ai (sm l hL) (ai (rk l hL) (ai (xT l hL h2)
   (C8 hL ht h0 h1).down)))))))
def Ek : LO0 := [(117, wO 2), (125, rO 5 0), (135, rD)]
theorem H6 (l : LU0) (hL : l.length = 192) (ht : px l = 0) (h0 : sc l) (h1 : rP l) (h2 : tI l) (h3 : vR l) : Gives prog 33 (p8 l) qT :=
 p6 (wP ++ Dx ++ Dh ++ Ek) (ai (rC l hL) (ai (qc l hL) (ai (wq l hL h3) (ai (qc l hL) (ai (sm l hL) (ai (rk l hL) (ai (xT l hL h2)
   (C8 hL ht h0 h1).down)))))))
def C1 : LO0 := [(91, wO 2), (99, rO 5 0), (109, r7), (116, rO 5 0)]
theorem Ii (l : LU0) (hL : l.length = 192) (ht : px l = 0) (h0 : sc l) (h1 : rP l) (h2 : vV l) (h3 : uK l) : Gives prog 33 (p8 l) qT :=
 p6 (wP ++ Dx ++ C1 ++ D6) (ai (rC l hL) (ai (qc l hL) (ai (uL l hL h3) (ai (qc l hL) (ai (sm l hL) (ai (rk l hL) (ai (wK l hL h2)
   (C8 hL ht h0 h1).down)))))))
theorem GX (l : LU0) (hL : l.length = 192) (ht : px l = 0) (h0 : sc l) (h1 : rP l) (h2 : vV l) (h3 : vR l) : Gives prog 33 (p8 l) qT :=
 p6 (wP ++ Dx ++ C1 ++ Ek) (ai (rC l hL) (ai (qc l hL) (ai (wq l hL h3) (ai (qc l hL) (ai (sm l hL) (ai (rk l hL) (ai (wK l hL h2)
   (C8 hL ht h0 h1).down)))))))
def Dk {l : LU0} (hL : l.length = 192) (ht : px l = 0) (h0 : sc l) (h1 : tZ l) := PLift.up (ai (rk l hL) (ai (D9 l hL) (ai (yZ l hL) (ai (Pe l hL h1)
   (Te hL ht h0).down))))
def CY : LO0 := [(65, wO 2), (73, rO 5 0), (83, uE), (90, rO 5 0)]
theorem HY (l : LU0) (hL : l.length = 192) (ht : px l = 0) (h0 : sc l) (h1 : tZ l) (h2 : tI l) (h3 : uK l) : Gives prog 33 (p8 l) qT :=
 p6 (wP ++ CY ++ Dh ++ D6) (ai (rC l hL) (ai (qc l hL) (ai (uL l hL h3) (ai (qc l hL) (ai (sm l hL) (ai (rk l hL) (ai (xT l hL h2)
   (Dk hL ht h0 h1).down)))))))
theorem HX (l : LU0) (hL : l.length = 192) (ht : px l = 0) (h0 : sc l) (h1 : tZ l) (h2 : tI l) (h3 : vR l) : Gives prog 33 (p8 l) qT :=
 p6 (wP ++ CY ++ Dh ++ Ek) (ai (rC l hL) (ai (qc l hL) (ai (wq l hL h3) (ai (qc l hL) (ai (sm l hL) (ai (rk l hL) (ai (xT l hL h2)
   (Dk hL ht h0 h1).down)))))))
theorem Gu (l : LU0) (hL : l.length = 192) (ht : px l = 0) (h0 : sc l) (h1 : tZ l) (h2 : vV l) (h3 : uK l) : Gives prog 33 (p8 l) qT :=
 p6 (wP ++ CY ++ C1 ++ D6) (ai (rC l hL) (ai (qc l hL) (ai (uL l hL h3) (ai (qc l hL) (ai (sm l hL) (ai (rk l hL) (ai (wK l hL h2)
   (Dk hL ht h0 h1).down)))))))
theorem Ho (l : LU0) (hL : l.length = 192) (ht : px l = 0) (h0 : sc l) (h1 : tZ l) (h2 : vV l) (h3 : vR l) : Gives prog 33 (p8 l) qT :=
 p6 (wP ++ CY ++ C1 ++ Ek) (ai (rC l hL) (ai (qc l hL) (ai (wq l hL h3) (ai (qc l hL) (ai (sm l hL) (ai (rk l hL) (ai (wK l hL h2)
   (Dk hL ht h0 h1).down)))))))
def sh2 (l : LU0) : Prop := l.length = 96 /\ (px l = 4 ∨ px l = 5)
def lo2 (l : LU0) : Prop := l.length = 192 /\ px l = 0
theorem E6 (x : F2) : of2 (x.1.val, x.2.val) = x := by unfold of2; rw [yr, yr]
theorem sU (x y : F2) (b : Bool) : sml2 ((x.1.val, x.2.val), (y.1.val, y.2.val), b) := ⟨⟨vE _, vE _⟩, ⟨vE _, vE _⟩⟩
theorem CR (a : F2) : pM (r9 a) (r9 a) = pM a a := by refine uW ?_ ?_ <;> simp only [pM, r9] <;> grind
theorem xa (x : F2) (h : Bool) (hq : sq2 (rW x)) : may2 ((x.1.val, x.2.val), ((sy2 (rW x) h).1.val, (sy2 (rW x) h).2.val), false) := by
 show is2 (x.1.val, x.2.val) /\ is2 ((sy2 (rW x) h).1.val, (sy2 (rW x) h).2.val) /\ pM (of2 ((sy2 (rW x) h).1.val, (sy2 (rW x) h).2.val)) (of2 ((sy2 (rW x) h).1.val, (sy2 (rW x) h).2.val)) = rW (of2 (x.1.val, x.2.val))
 refine ⟨⟨x.1.isLt, x.2.isLt⟩, ⟨Fin.isLt _, Fin.isLt _⟩, ?_⟩
 rw [E6, E6]
 cases h
 ·exact Qo hq
 ·show pM (r9 (rt2 (rW x))) (r9 (rt2 (rW x))) = rW x
  rw [CR]; exact Qo hq
def altG2 (l : LU0) : tg := [(some (l.length ≠ 96 /\ l.length ≠ 192), .tp [.ag [.c (.int .u64 0), .c (.int .u64 0), .c (.int .u64 0), .c (.int .u64 0), .c (.int .u64 0), .c (.int .u64 0), .c (.int .u64 0), .c (.int .u64 0), .c (.int .u64 0), .c (.int .u64 0), .c (.int .u64 0), .c (.int .u64 0), .c (.int .u64 0), .c (.int .u64 0), .c (.int .u64 0), .c (.int .u64 0), .c (.int .u64 0), .c (.int .u64 0), .c (.int .u64 0), .c (.int .u64 0), .c (.int .u64 0), .c (.int .u64 0), .c (.int .u64 0), .c (.int .u64 0), .c (.bool false)], vi0 3]), (some ((l.length = 96 /\ px l ≠ 4 /\ px l ≠ 5 /\ px l ≠ 6) ∨ (l.length = 192 /\ px l ≠ 0 /\ px l ≠ 2)), .tp [.ag [.c (.int .u64 0), .c (.int .u64 0), .c (.int .u64 0), .c (.int .u64 0), .c (.int .u64 0), .c (.int .u64 0), .c (.int .u64 0), .c (.int .u64 0), .c (.int .u64 0), .c (.int .u64 0), .c (.int .u64 0), .c (.int .u64 0), .c (.int .u64 0), .c (.int .u64 0), .c (.int .u64 0), .c (.int .u64 0), .c (.int .u64 0), .c (.int .u64 0), .c (.int .u64 0), .c (.int .u64 0), .c (.int .u64 0), .c (.int .u64 0), .c (.int .u64 0), .c (.int .u64 0), .c (.bool false)], vi0 32]), (some (((l.length = 96 /\ px l = 6) ∨ (l.length = 192 /\ px l = 2)) /\ ¬ sf (pr l)), .tp [.ag [.c (.int .u64 0), .c (.int .u64 0), .c (.int .u64 0), .c (.int .u64 0), .c (.int .u64 0), .c (.int .u64 0), .c (.int .u64 0), .c (.int .u64 0), .c (.int .u64 0), .c (.int .u64 0), .c (.int .u64 0), .c (.int .u64 0), .c (.int .u64 0), .c (.int .u64 0), .c (.int .u64 0), .c (.int .u64 0), .c (.int .u64 0), .c (.int .u64 0), .c (.int .u64 0), .c (.int .u64 0), .c (.int .u64 0), .c (.int .u64 0), .c (.int .u64 0), .c (.int .u64 0), .c (.bool false)], vi0 33]), (some (((l.length = 96 /\ px l = 6) ∨ (l.length = 192 /\ px l = 2)) /\ sf (pr l)), .tp [.ag [.c (.int .u64 0), .c (.int .u64 0), .c (.int .u64 0), .c (.int .u64 0), .c (.int .u64 0), .c (.int .u64 0), .c (.int .u64 0), .c (.int .u64 0), .c (.int .u64 0), .c (.int .u64 0), .c (.int .u64 0), .c (.int .u64 0), .c (.int .u64 0), .c (.int .u64 0), .c (.int .u64 0), .c (.int .u64 0), .c (.int .u64 0), .c (.int .u64 0), .c (.int .u64 0), .c (.int .u64 0), .c (.int .u64 0), .c (.int .u64 0), .c (.int .u64 0), .c (.int .u64 0), .c (.bool true)], vi0 0]), (some (sh2 l /\ ¬ (c2 l 0 < Pp /\ c2 l 1 < Pp)), .tp [.ag [.c (.int .u64 0), .c (.int .u64 0), .c (.int .u64 0), .c (.int .u64 0), .c (.int .u64 0), .c (.int .u64 0), .c (.int .u64 0), .c (.int .u64 0), .c (.int .u64 0), .c (.int .u64 0), .c (.int .u64 0), .c (.int .u64 0), .c (.int .u64 0), .c (.int .u64 0), .c (.int .u64 0), .c (.int .u64 0), .c (.int .u64 0), .c (.int .u64 0), .c (.int .u64 0), .c (.int .u64 0), .c (.int .u64 0), .c (.int .u64 0), .c (.int .u64 0), .c (.int .u64 0), .c (.bool false)], vi0 20]), (some (sh2 l /\ (c2 l 0 < Pp /\ c2 l 1 < Pp) /\ ¬ sq2 (rW ((ofP (c2 l 1), ofP (c2 l 0)) : F2))), .tp [.ag [.c (.int .u64 0), .c (.int .u64 0), .c (.int .u64 0), .c (.int .u64 0), .c (.int .u64 0), .c (.int .u64 0), .c (.int .u64 0), .c (.int .u64 0), .c (.int .u64 0), .c (.int .u64 0), .c (.int .u64 0), .c (.int .u64 0), .c (.int .u64 0), .c (.int .u64 0), .c (.int .u64 0), .c (.int .u64 0), .c (.int .u64 0), .c (.int .u64 0), .c (.int .u64 0), .c (.int .u64 0), .c (.int .u64 0), .c (.int .u64 0), .c (.int .u64 0), .c (.int .u64 0), .c (.bool false)], vi0 30]), (some (sh2 l /\ (c2 l 0 < Pp /\ c2 l 1 < Pp) /\ sq2 (rW ((ofP (c2 l 1), ofP (c2 l 0)) : F2)) /\ ¬ sB ((((ofP (c2 l 1), ofP (c2 l 0)) : F2).1.val, ((ofP (c2 l 1), ofP (c2 l 0)) : F2).2.val), ((sy2 (rW ((ofP (c2 l 1), ofP (c2 l 0)) : F2)) (decide (px l = 5))).1.val, (sy2 (rW ((ofP (c2 l 1), ofP (c2 l 0)) : F2)) (decide (px l = 5))).2.val), false)), .tp [.ag [.c (.int .u64 0), .c (.int .u64 0), .c (.int .u64 0), .c (.int .u64 0), .c (.int .u64 0), .c (.int .u64 0), .c (.int .u64 0), .c (.int .u64 0), .c (.int .u64 0), .c (.int .u64 0), .c (.int .u64 0), .c (.int .u64 0), .c (.int .u64 0), .c (.int .u64 0), .c (.int .u64 0), .c (.int .u64 0), .c (.int .u64 0), .c (.int .u64 0), .c (.int .u64 0), .c (.int .u64 0), .c (.int .u64 0), .c (.int .u64 0), .c (.int .u64 0), .c (.int .u64 0), .c (.bool false)], vi0 31]), (some (sh2 l /\ (c2 l 0 < Pp /\ c2 l 1 < Pp) /\ sq2 (rW ((ofP (c2 l 1), ofP (c2 l 0)) : F2)) /\ sB ((((ofP (c2 l 1), ofP (c2 l 0)) : F2).1.val, ((ofP (c2 l 1), ofP (c2 l 0)) : F2).2.val), ((sy2 (rW ((ofP (c2 l 1), ofP (c2 l 0)) : F2)) (decide (px l = 5))).1.val, (sy2 (rW ((ofP (c2 l 1), ofP (c2 l 0)) : F2)) (decide (px l = 5))).2.val), false)), .tp [.ag [.q ((ofP (c2 l 1), ofP (c2 l 0)) : F2).1, .q ((ofP (c2 l 1), ofP (c2 l 0)) : F2).2, .q (sy2 (rW ((ofP (c2 l 1), ofP (c2 l 0)) : F2)) (decide (px l = 5))).1, .q (sy2 (rW ((ofP (c2 l 1), ofP (c2 l 0)) : F2)) (decide (px l = 5))).2, .c (.bool false)], vi0 0]), (some (lo2 l /\ ¬ (c2 l 0 < Pp /\ c2 l 1 < Pp /\ c2 l 2 < Pp /\ c2 l 3 < Pp)), .tp [.ag [.c (.int .u64 0), .c (.int .u64 0), .c (.int .u64 0), .c (.int .u64 0), .c (.int .u64 0), .c (.int .u64 0), .c (.int .u64 0), .c (.int .u64 0), .c (.int .u64 0), .c (.int .u64 0), .c (.int .u64 0), .c (.int .u64 0), .c (.int .u64 0), .c (.int .u64 0), .c (.int .u64 0), .c (.int .u64 0), .c (.int .u64 0), .c (.int .u64 0), .c (.int .u64 0), .c (.int .u64 0), .c (.int .u64 0), .c (.int .u64 0), .c (.int .u64 0), .c (.int .u64 0), .c (.bool false)], vi0 20]), (some (lo2 l /\ (c2 l 0 < Pp /\ c2 l 1 < Pp /\ c2 l 2 < Pp /\ c2 l 3 < Pp) /\ ¬ may2 ((((ofP (c2 l 1), ofP (c2 l 0)) : F2).1.val, ((ofP (c2 l 1), ofP (c2 l 0)) : F2).2.val), (((ofP (c2 l 3), ofP (c2 l 2)) : F2).1.val, ((ofP (c2 l 3), ofP (c2 l 2)) : F2).2.val), false)), .tp [.ag [.c (.int .u64 0), .c (.int .u64 0), .c (.int .u64 0), .c (.int .u64 0), .c (.int .u64 0), .c (.int .u64 0), .c (.int .u64 0), .c (.int .u64 0), .c (.int .u64 0), .c (.int .u64 0), .c (.int .u64 0), .c (.int .u64 0), .c (.int .u64 0), .c (.int .u64 0), .c (.int .u64 0), .c (.int .u64 0), .c (.int .u64 0), .c (.int .u64 0), .c (.int .u64 0), .c (.int .u64 0), .c (.int .u64 0), .c (.int .u64 0), .c (.int .u64 0), .c (.int .u64 0), .c (.bool false)], vi0 30]), (some (lo2 l /\ (c2 l 0 < Pp /\ c2 l 1 < Pp /\ c2 l 2 < Pp /\ c2 l 3 < Pp) /\ may2 ((((ofP (c2 l 1), ofP (c2 l 0)) : F2).1.val, ((ofP (c2 l 1), ofP (c2 l 0)) : F2).2.val), (((ofP (c2 l 3), ofP (c2 l 2)) : F2).1.val, ((ofP (c2 l 3), ofP (c2 l 2)) : F2).2.val), false) /\ ¬ sB ((((ofP (c2 l 1), ofP (c2 l 0)) : F2).1.val, ((ofP (c2 l 1), ofP (c2 l 0)) : F2).2.val), (((ofP (c2 l 3), ofP (c2 l 2)) : F2).1.val, ((ofP (c2 l 3), ofP (c2 l 2)) : F2).2.val), false)), .tp [.ag [.c (.int .u64 0), .c (.int .u64 0), .c (.int .u64 0), .c (.int .u64 0), .c (.int .u64 0), .c (.int .u64 0), .c (.int .u64 0), .c (.int .u64 0), .c (.int .u64 0), .c (.int .u64 0), .c (.int .u64 0), .c (.int .u64 0), .c (.int .u64 0), .c (.int .u64 0), .c (.int .u64 0), .c (.int .u64 0), .c (.int .u64 0), .c (.int .u64 0), .c (.int .u64 0), .c (.int .u64 0), .c (.int .u64 0), .c (.int .u64 0), .c (.int .u64 0), .c (.int .u64 0), .c (.bool false)], vi0 31]), (some (lo2 l /\ (c2 l 0 < Pp /\ c2 l 1 < Pp /\ c2 l 2 < Pp /\ c2 l 3 < Pp) /\ may2 ((((ofP (c2 l 1), ofP (c2 l 0)) : F2).1.val, ((ofP (c2 l 1), ofP (c2 l 0)) : F2).2.val), (((ofP (c2 l 3), ofP (c2 l 2)) : F2).1.val, ((ofP (c2 l 3), ofP (c2 l 2)) : F2).2.val), false) /\ sB ((((ofP (c2 l 1), ofP (c2 l 0)) : F2).1.val, ((ofP (c2 l 1), ofP (c2 l 0)) : F2).2.val), (((ofP (c2 l 3), ofP (c2 l 2)) : F2).1.val, ((ofP (c2 l 3), ofP (c2 l 2)) : F2).2.val), false)), .tp [.ag [.q ((ofP (c2 l 1), ofP (c2 l 0)) : F2).1, .q ((ofP (c2 l 1), ofP (c2 l 0)) : F2).2, .q ((ofP (c2 l 3), ofP (c2 l 2)) : F2).1, .q ((ofP (c2 l 3), ofP (c2 l 2)) : F2).2, .c (.bool false)], vi0 0])]
set_option maxHeartbeats 4000000 in
theorem Oa (l : LU0) : ∀ c r, (c, r) ∈ altG2 l -> c.getD True -> Gives prog 33 [.t (.v (.string (ofL l)))] r := by
 intro c x hm hc
 simp only [altG2, List.mem_cons, pi0, List.not_mem_nil, or_false] at hm
 rcases hm with ⟨rfl, rfl⟩ | ⟨rfl, rfl⟩ | ⟨rfl, rfl⟩ | ⟨rfl, rfl⟩ | ⟨rfl, rfl⟩ | ⟨rfl, rfl⟩ | ⟨rfl, rfl⟩ | ⟨rfl, rfl⟩ | ⟨rfl, rfl⟩ | ⟨rfl, rfl⟩ | ⟨rfl, rfl⟩ | ⟨rfl, rfl⟩
 ·exact Rv l hc
 ·exact Qk l hc
 ·exact Mp l hc
 ·obtain ⟨h | h, hz⟩ := hc
  ·exact SB l ⟨h, hz⟩
  ·exact SE l ⟨h, hz⟩
 ·obtain ⟨⟨hL, ht | ht⟩, h⟩ := hc
  ·by_cases h0 : c2 l 0 < Pp
   ·by_cases h1 : c2 l 1 < Pp
    ·exact absurd ⟨h0, h1⟩ h
    ·exact HJ l hL ht h0 (Nat.le_of_not_lt h1)
   ·by_cases h1 : c2 l 1 < Pp
    ·exact GF l hL ht (Nat.le_of_not_lt h0) h1
    ·exact H7 l hL ht (Nat.le_of_not_lt h0) (Nat.le_of_not_lt h1)
  ·by_cases h0 : c2 l 0 < Pp
   ·by_cases h1 : c2 l 1 < Pp
    ·exact absurd ⟨h0, h1⟩ h
    ·exact GS l hL ht h0 (Nat.le_of_not_lt h1)
   ·by_cases h1 : c2 l 1 < Pp
    ·exact HL l hL ht (Nat.le_of_not_lt h0) h1
    ·exact Ht l hL ht (Nat.le_of_not_lt h0) (Nat.le_of_not_lt h1)
 ·obtain ⟨⟨hL, ht | ht⟩, ⟨h0, h1⟩, hq⟩ := hc
  ·exact O1 l hL ht h0 h1 hq
  ·exact P8 l hL ht h0 h1 hq
 ·obtain ⟨⟨hL, ht | ht⟩, ⟨h0, h1⟩, hq, hg⟩ := hc
  ·have e : decide (px l = 5) = false := by rw [ht]; rfl
   rw [e] at hg
   exact P7 l hL ht h0 h1 hq ⟨sU _ _ _, xa _ false hq, hg⟩
  ·have e : decide (px l = 5) = true := by rw [ht]; rfl
   rw [e] at hg
   exact PL l hL ht h0 h1 hq ⟨sU _ _ _, xa _ true hq, hg⟩
 ·obtain ⟨⟨hL, ht | ht⟩, ⟨h0, h1⟩, hq, hg⟩ := hc
  ·have e : decide (px l = 5) = false := by rw [ht]; rfl
   rw [e] at hg ⊢
   exact LA l hL ht h0 h1 hq ⟨sU _ _ _, xa _ false hq, hg⟩
  ·have e : decide (px l = 5) = true := by rw [ht]; rfl
   rw [e] at hg ⊢
   exact KC l hL ht h0 h1 hq ⟨sU _ _ _, xa _ true hq, hg⟩
 ·obtain ⟨⟨hL, ht⟩, h⟩ := hc
  by_cases h0 : c2 l 0 < Pp
  ·by_cases h1 : c2 l 1 < Pp
   ·by_cases h2 : c2 l 2 < Pp
    ·by_cases h3 : c2 l 3 < Pp
     ·exact absurd ⟨h0, h1, h2, h3⟩ h
     ·exact GY l hL ht h0 h1 h2 (Nat.le_of_not_lt h3)
    ·by_cases h3 : c2 l 3 < Pp
     ·exact Hr l hL ht h0 h1 (Nat.le_of_not_lt h2) h3
     ·exact Ie l hL ht h0 h1 (Nat.le_of_not_lt h2) (Nat.le_of_not_lt h3)
   ·by_cases h2 : c2 l 2 < Pp
    ·by_cases h3 : c2 l 3 < Pp
     ·exact In l hL ht h0 (Nat.le_of_not_lt h1) h2 h3
     ·exact F8 l hL ht h0 (Nat.le_of_not_lt h1) h2 (Nat.le_of_not_lt h3)
    ·by_cases h3 : c2 l 3 < Pp
     ·exact HV l hL ht h0 (Nat.le_of_not_lt h1) (Nat.le_of_not_lt h2) h3
     ·exact Im l hL ht h0 (Nat.le_of_not_lt h1) (Nat.le_of_not_lt h2) (Nat.le_of_not_lt h3)
  ·by_cases h1 : c2 l 1 < Pp
   ·by_cases h2 : c2 l 2 < Pp
    ·by_cases h3 : c2 l 3 < Pp
     ·exact GH l hL ht (Nat.le_of_not_lt h0) h1 h2 h3
     ·exact H6 l hL ht (Nat.le_of_not_lt h0) h1 h2 (Nat.le_of_not_lt h3)
    ·by_cases h3 : c2 l 3 < Pp
     ·exact Ii l hL ht (Nat.le_of_not_lt h0) h1 (Nat.le_of_not_lt h2) h3
     ·exact GX l hL ht (Nat.le_of_not_lt h0) h1 (Nat.le_of_not_lt h2) (Nat.le_of_not_lt h3)
   ·by_cases h2 : c2 l 2 < Pp
    ·by_cases h3 : c2 l 3 < Pp
     ·exact HY l hL ht (Nat.le_of_not_lt h0) (Nat.le_of_not_lt h1) h2 h3
     ·exact HX l hL ht (Nat.le_of_not_lt h0) (Nat.le_of_not_lt h1) h2 (Nat.le_of_not_lt h3)
    ·by_cases h3 : c2 l 3 < Pp
     ·exact Gu l hL ht (Nat.le_of_not_lt h0) (Nat.le_of_not_lt h1) (Nat.le_of_not_lt h2) h3
     ·exact Ho l hL ht (Nat.le_of_not_lt h0) (Nat.le_of_not_lt h1) (Nat.le_of_not_lt h2) (Nat.le_of_not_lt h3)
 ·obtain ⟨⟨hL, ht⟩, ⟨h0, h1, h2, h3⟩, hr⟩ := hc
  exact R3 l hL ht h0 h1 h2 h3 ⟨sU _ _ _, hr⟩
 ·obtain ⟨⟨hL, ht⟩, ⟨h0, h1, h2, h3⟩, hr, hg⟩ := hc
  exact Sw l hL ht h0 h1 h2 h3 ⟨sU _ _ _, hr, hg⟩
 ·obtain ⟨⟨hL, ht⟩, ⟨h0, h1, h2, h3⟩, hr, hg⟩ := hc
  exact Qp l hL ht h0 h1 h2 h3 ⟨sU _ _ _, hr, hg⟩
end Go.Proofs.YtokjhbmmdmeafaaGreat
set_option linter.unusedSimpArgs false
set_option linter.unusedVariables false
namespace Go.Proofs.YtokjhbmmdmeafaaGreat
open Go.Ev Go.RowKit
open Tryz
theorem Gives.same {P : Program} {f : FuncId} {xs : List XV} {a b : List Ch} {r : AV} (h : Gives P f xs (.tp [.ag a, r])) (e : AV.val? (.tp [.ag a, r]) = AV.val? (.tp [.ag b, r])) : Gives P f xs (.tp [.ag b, r]) := by
 obtain ⟨v, h1, h2⟩ := h
 exact ⟨v, e ▸ h1, h2⟩
def uT (l : LU0) : Prop := (l.length = 48 /\ px l = 6) ∨ (l.length = 96 /\ px l = 2)
instance (l : LU0) : Decidable (uT l) := inferInstanceAs (Decidable (_ ∨ _))
def gx1 (l : LU0) : Fin Pp := if uT l then 0 else ofP (nX l)
def gy1 (l : LU0) : Fin Pp := if uT l then 0 else if l.length = 48 then sy1 (sJ (ofP (nX l))) (decide (px l = 5)) else ofP (nY l)
def ok1 (l : LU0) : Prop :=
 (uT l /\ sf (pr l)) ∨ (sh1 l /\ nX l < Pp /\ sqP (sJ (ofP (nX l))) /\ sA ((ofP (nX l)).val, (sy1 (sJ (ofP (nX l))) (decide (px l = 5))).val, false)) ∨
  (lo1 l /\ (nX l < Pp /\ nY l < Pp) /\ may1 ((ofP (nX l)).val, (ofP (nY l)).val, false) /\ sA ((ofP (nX l)).val, (ofP (nY l)).val, false))
def z13 : List Ch := [.c (.int .u64 0), .c (.int .u64 0), .c (.int .u64 0), .c (.int .u64 0), .c (.int .u64 0), .c (.int .u64 0), .c (.int .u64 0), .c (.int .u64 0), .c (.int .u64 0), .c (.int .u64 0), .c (.int .u64 0), .c (.int .u64 0), .c (.bool false)]
def cd1 (l : LU0) (k : Int) : Prop := k ≠ 0 /\ Gives prog 27 [.t (.v (.string (ofL l)))] (.tp [.ag z13, vi0 k])
theorem at1 (l : LU0) (i : Nat) {c : Option Prop} {r : AV} (h : (altG1 l)[i]? = some (c, r)) (hc : c.getD True) : Gives prog 27 [.t (.v (.string (ofL l)))] r := Pt l c r (List.mem_of_getElem? h) hc
theorem form1 {l : LU0} (h0 : ¬ (l.length ≠ 48 /\ l.length ≠ 96)) (hs : ¬ ((l.length = 48 /\ px l ≠ 4 /\ px l ≠ 5 /\ px l ≠ 6) ∨ (l.length = 96 /\ px l ≠ 0 /\ px l ≠ 2))) (hi : ¬ uT l) : sh1 l ∨ lo1 l := by
 unfold sh1 lo1
 unfold uT at hi
 omega
theorem vn {l : LU0} (h : sh1 l) : ¬ uT l := by unfold uT; unfold sh1 at h; omega
theorem vJ {l : LU0} (h : lo1 l) : ¬ uT l := by unfold uT; unfold lo1 at h; omega
theorem RA : AV.val? (.tp [.ag [.c (.int .u64 0), .c (.int .u64 0), .c (.int .u64 0), .c (.int .u64 0), .c (.int .u64 0), .c (.int .u64 0), .c (.int .u64 0), .c (.int .u64 0), .c (.int .u64 0), .c (.int .u64 0), .c (.int .u64 0), .c (.int .u64 0), .c (.bool true)], vi0 0]) = AV.val? (.tp [.ag [.q 0, .q 0, .c (.bool true)], vi0 0]) := rfl
theorem ZA (l : LU0) (h : ok1 l) : Gives prog 27 [.t (.v (.string (ofL l)))] (.tp [.ag [.q (gx1 l), .q (gy1 l), .c (.bool (decide (uT l)))], vi0 0]) := by
 rcases h with ⟨hi, hz⟩ | ⟨s, h⟩ | ⟨s, h⟩
 ·rw [show gx1 l = 0 from if_pos hi, show gy1 l = 0 from if_pos hi, show decide (uT l) = true from decide_eq_true hi]
  exact Gives.same (at1 l 3 rfl ⟨hi, hz⟩) RA
 ·rw [show gx1 l = _ from if_neg (vn s), show gy1 l = _ from if_neg (vn s), show decide (uT l) = false from decide_eq_false (vn s), if_pos s.1]
  exact at1 l 7 rfl ⟨s, h⟩
 ·rw [show gx1 l = _ from if_neg (vJ s), show gy1 l = _ from if_neg (vJ s), show decide (uT l) = false from decide_eq_false (vJ s), if_neg (by have := s.1; omega)]
  exact at1 l 11 rfl ⟨s, h⟩
end Go.Proofs.YtokjhbmmdmeafaaGreat
set_option linter.unusedSimpArgs false
set_option linter.unusedVariables false
namespace Go.Proofs.YtokjhbmmdmeafaaGreat
open Go.Ev Go.RowKit
open Tryz
def ve (l : LU0) : Prop := (l.length = 96 /\ px l = 6) ∨ (l.length = 192 /\ px l = 2)
instance (l : LU0) : Decidable (ve l) := inferInstanceAs (Decidable (_ ∨ _))
def xs2 (l : LU0) : F2 := (ofP (c2 l 1), ofP (c2 l 0))
def ys2 (l : LU0) : F2 := (ofP (c2 l 3), ofP (c2 l 2))
def nn (a : F2) : N2 := (a.1.val, a.2.val)
def gx2 (l : LU0) : F2 := if ve l then (0, 0) else xs2 l
def gy2 (l : LU0) : F2 := if ve l then (0, 0) else if l.length = 96 then sy2 (rW (xs2 l)) (decide (px l = 5)) else ys2 l
def ok2 (l : LU0) : Prop :=
 (ve l /\ sf (pr l)) ∨ (sh2 l /\ (c2 l 0 < Pp /\ c2 l 1 < Pp) /\ sq2 (rW (xs2 l)) /\ sB (nn (xs2 l), nn (sy2 (rW (xs2 l)) (decide (px l = 5))), false)) ∨
  (lo2 l /\ (c2 l 0 < Pp /\ c2 l 1 < Pp /\ c2 l 2 < Pp /\ c2 l 3 < Pp) /\ may2 (nn (xs2 l), nn (ys2 l), false) /\ sB (nn (xs2 l), nn (ys2 l), false))
def z25 : List Ch := [.c (.int .u64 0), .c (.int .u64 0), .c (.int .u64 0), .c (.int .u64 0), .c (.int .u64 0), .c (.int .u64 0), .c (.int .u64 0), .c (.int .u64 0), .c (.int .u64 0), .c (.int .u64 0), .c (.int .u64 0), .c (.int .u64 0), .c (.int .u64 0), .c (.int .u64 0), .c (.int .u64 0), .c (.int .u64 0), .c (.int .u64 0), .c (.int .u64 0), .c (.int .u64 0), .c (.int .u64 0), .c (.int .u64 0), .c (.int .u64 0), .c (.int .u64 0), .c (.int .u64 0), .c (.bool false)]
def cd2 (l : LU0) (k : Int) : Prop := k ≠ 0 /\ Gives prog 33 [.t (.v (.string (ofL l)))] (.tp [.ag z25, vi0 k])
theorem at2 (l : LU0) (i : Nat) {c : Option Prop} {r : AV} (h : (altG2 l)[i]? = some (c, r)) (hc : c.getD True) : Gives prog 33 [.t (.v (.string (ofL l)))] r := Oa l c r (List.mem_of_getElem? h) hc
theorem form2 {l : LU0} (h0 : ¬ (l.length ≠ 96 /\ l.length ≠ 192)) (hs : ¬ ((l.length = 96 /\ px l ≠ 4 /\ px l ≠ 5 /\ px l ≠ 6) ∨ (l.length = 192 /\ px l ≠ 0 /\ px l ≠ 2))) (hi : ¬ ve l) : sh2 l ∨ lo2 l := by
 unfold sh2 lo2
 unfold ve at hi
 omega
theorem uc {l : LU0} (h : sh2 l) : ¬ ve l := by unfold ve; unfold sh2 at h; omega
theorem um {l : LU0} (h : lo2 l) : ¬ ve l := by unfold ve; unfold lo2 at h; omega
theorem RU : AV.val? (.tp [.ag [.c (.int .u64 0), .c (.int .u64 0), .c (.int .u64 0), .c (.int .u64 0), .c (.int .u64 0), .c (.int .u64 0), .c (.int .u64 0), .c (.int .u64 0), .c (.int .u64 0), .c (.int .u64 0), .c (.int .u64 0), .c (.int .u64 0), .c (.int .u64 0), .c (.int .u64 0), .c (.int .u64 0), .c (.int .u64 0), .c (.int .u64 0), .c (.int .u64 0), .c (.int .u64 0), .c (.int .u64 0), .c (.int .u64 0), .c (.int .u64 0), .c (.int .u64 0), .c (.int .u64 0), .c (.bool true)], vi0 0]) = AV.val? (.tp [.ag [.q ((0, 0) : F2).1, .q ((0, 0) : F2).2, .q ((0, 0) : F2).1, .q ((0, 0) : F2).2, .c (.bool true)], vi0 0]) := rfl
theorem aaq (l : LU0) (h : ok2 l) : Gives prog 33 [.t (.v (.string (ofL l)))] (.tp [.ag [.q (gx2 l).1, .q (gx2 l).2, .q (gy2 l).1, .q (gy2 l).2, .c (.bool (decide (ve l)))], vi0 0]) := by
 rcases h with ⟨hi, hz⟩ | ⟨s, h⟩ | ⟨s, h⟩
 ·rw [show gx2 l = (0, 0) from if_pos hi, show gy2 l = (0, 0) from if_pos hi, show decide (ve l) = true from decide_eq_true hi]
  exact Gives.same (at2 l 3 rfl ⟨hi, hz⟩) RU
 ·rw [show gx2 l = _ from if_neg (uc s), show gy2 l = _ from if_neg (uc s), show decide (ve l) = false from decide_eq_false (uc s), if_pos s.1]
  exact at2 l 7 rfl ⟨s, h⟩
 ·rw [show gx2 l = _ from if_neg (um s), show gy2 l = _ from if_neg (um s), show decide (ve l) = false from decide_eq_false (um s), if_neg (by have := s.1; omega)]
  exact at2 l 11 rfl ⟨s, h⟩
end Go.Proofs.YtokjhbmmdmeafaaGreat
