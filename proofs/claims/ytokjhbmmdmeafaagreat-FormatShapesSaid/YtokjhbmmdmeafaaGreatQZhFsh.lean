/- Pruned: ZhFsh. -/
import Derived.Test.YtokjhbmmdmeafaaGreatQGg
import Derived.Test.YtokjhbmmdmeafaaGreatQGs
set_option linter.unusedSimpArgs false
set_option linter.unusedVariables false
namespace Go.Proofs.YtokjhbmmdmeafaaGreat
open Go.Ev Go.RowKit
open Tryz
def gv (a : AV) : Ora := { ch := 0, hi := fun _ => 0, ex := 7, av := fun _ => a }
def erP (e : Int) : AV := .tp [.ag sK, vi0 e]
def gPG (l : LU0) (a : AV) : Prop := so prog 6 [.t (.v (.string (ofL l)))] a
def sPG (l : LU0) (w : Int) : Prop := so prog 12 [.t (.v (.string (ofL mgP))), .t (.v (.string (ofL l)))] (vi0 w)
theorem gPI {l : LU0} {a : AV} (h : Gives prog 6 [.t (.v (.string (ofL l)))] a) : gPG l a := ⟨fun vs w => Go.Proofs.enters_of (P := prog) func6 (by kernel_rfl) rfl vs w, h⟩
theorem sPI {l : LU0} {w : Int} (h : Gives prog 12 [.t (.v (.string (ofL mgP))), .t (.v (.string (ofL l)))] (vi0 w)) : sPG l w := ⟨fun vs w => Go.Proofs.enters_of (P := prog) func12 (by kernel_rfl) rfl vs w, h⟩
def erV (e : Int) : AV := .tp [.ag u7, vi0 e]
def gVG (l : LU0) (a : AV) : Prop := so prog 7 [.t (.v (.string (ofL l)))] a
def sVG (l : LU0) (w : Int) : Prop := so prog 12 [.t (.v (.string (ofL mgV))), .t (.v (.string (ofL l)))] (vi0 w)
theorem gVI {l : LU0} {a : AV} (h : Gives prog 7 [.t (.v (.string (ofL l)))] a) : gVG l a := ⟨fun vs w => Go.Proofs.enters_of (P := prog) func7 (by kernel_rfl) rfl vs w, h⟩
theorem sVI {l : LU0} {w : Int} (h : Gives prog 12 [.t (.v (.string (ofL mgV))), .t (.v (.string (ofL l)))] (vi0 w)) : sVG l w := ⟨fun vs w => Go.Proofs.enters_of (P := prog) func12 (by kernel_rfl) rfl vs w, h⟩
def erW (e : Int) : AV := .tp [.v (.slice none 0 0), vi0 e]
def gWG (l : LU0) (a : AV) : Prop := so prog 8 [.t (.v (.string (ofL l)))] a
def sWG (l : LU0) (w : Int) : Prop := so prog 12 [.t (.v (.string (ofL mgW))), .t (.v (.string (ofL l)))] (vi0 w)
theorem gWI {l : LU0} {a : AV} (h : Gives prog 8 [.t (.v (.string (ofL l)))] a) : gWG l a := ⟨fun vs w => Go.Proofs.enters_of (P := prog) func8 (by kernel_rfl) rfl vs w, h⟩
theorem sWI {l : LU0} {w : Int} (h : Gives prog 12 [.t (.v (.string (ofL mgW))), .t (.v (.string (ofL l)))] (vi0 w)) : sWG l w := ⟨fun vs w => Go.Proofs.enters_of (P := prog) func12 (by kernel_rfl) rfl vs w, h⟩
def erC (e : Int) : AV := .tp [.ag zcL, vi0 e]
def gCG (l : LU0) (a : AV) : Prop := so prog 9 [.t (.v (.string (ofL l)))] a
def sCG (l : LU0) (w : Int) : Prop := so prog 12 [.t (.v (.string (ofL qm))), .t (.v (.string (ofL l)))] (vi0 w)
theorem gCI {l : LU0} {a : AV} (h : Gives prog 9 [.t (.v (.string (ofL l)))] a) : gCG l a := ⟨fun vs w => Go.Proofs.enters_of (P := prog) func9 (by kernel_rfl) rfl vs w, h⟩
theorem sCI {l : LU0} {w : Int} (h : Gives prog 12 [.t (.v (.string (ofL qm))), .t (.v (.string (ofL l)))] (vi0 w)) : sCG l w := ⟨fun vs w => Go.Proofs.enters_of (P := prog) func12 (by kernel_rfl) rfl vs w, h⟩
def erK (e : Int) : AV := .tp [.ag zk, vi0 e]
def gKG (l : LU0) (a : AV) : Prop := so prog 10 [.t (.v (.string (ofL l)))] a
def sKG (l : LU0) (w : Int) : Prop := so prog 12 [.t (.v (.string (ofL qy))), .t (.v (.string (ofL l)))] (vi0 w)
theorem gKI {l : LU0} {a : AV} (h : Gives prog 10 [.t (.v (.string (ofL l)))] a) : gKG l a := ⟨fun vs w => Go.Proofs.enters_of (P := prog) func10 (by kernel_rfl) rfl vs w, h⟩
theorem sKI {l : LU0} {w : Int} (h : Gives prog 12 [.t (.v (.string (ofL qy))), .t (.v (.string (ofL l)))] (vi0 w)) : sKG l w := ⟨fun vs w => Go.Proofs.enters_of (P := prog) func12 (by kernel_rfl) rfl vs w, h⟩
def nP (l : LU0) : Prop := gPG l (erP 80) /\ sPG l 80
def nV (l : LU0) : Prop := gVG l (erV 80) /\ sVG l 80
def nW (l : LU0) : Prop := gWG l (erW 80) /\ sWG l 80
def nC (l : LU0) : Prop := gCG l (erC 80) /\ sCG l 80
def nK (l : LU0) : Prop := gKG l (erK 80) /\ sKG l 80
def fo (a b c d e : AV) : LO0 := [(3, gv a), (11, gv b), (19, gv c), (26, gv d), (34, gv e)]
def gi (w : Int) : Ora := gv (vi0 w)
def fj (i : Nat) (v : Int) (j : Nat) (w : Int) (k : Nat) (x : Int) (m : Nat) (y : Int) (n : Nat) (z : Int) : LO0 := [(i, gi v), (j, gi w), (k, gi x), (m, gi y), (n, gi z)]
theorem fc {l : LU0} {p v w c k : AV} {a b d e f : Int} (h : gPG l p /\ sPG l a) (i : gVG l v /\ sVG l b) (j : gWG l w /\ sWG l d) (m : gCG l c /\ sCG l e) (n : gKG l k /\ sKG l f) : sKG l f /\ sCG l e /\ sWG l d /\ sVG l b /\ sPG l a /\ gKG l k /\ gCG l c /\ gWG l w /\ gVG l v /\ gPG l p /\ True := ⟨n.2, m.2, j.2, i.2, h.2, n.1, m.1, j.1, i.1, h.1, tt0⟩
def FT (l : LU0) : Prop := Gives prog 3 [.t (.v (.string (ofL l)))] (.v (.bool true))
theorem fsR {l : LU0} {ob : Prop} (os : LO0) (h : fnA prog (pC _) [Dr] 1 (oL os) f3 [.t (.v (.string (ofL l)))] = some (.v (.bool true), ob)) (hob : ob) : FT l := pz (P := prog) (X := pC _) (env := [Dr]) ⟨Hw, tt0⟩ func3 1 (oL os) h ⟨_, rfl⟩ hob
theorem Rk (l : LU0) (p : nP l) (v : nV l) (w : nW l) (c : nC l) (k : nK l) : FT l := fsR (fo (erP 80) (erV 80) (erW 80) (erC 80) (erK 80) ++ fj 51 80 67 80 83 80 99 80 115 80) (by kernel_rfl) (fc p v w c k)
theorem Yp (l : LU0) (y : Int) (hy : y ≠ 0) (g : gPG l (erP y)) (s : sPG l y) (v : nV l) (w : nW l) (c : nC l) (k : nK l) : FT l := fsR (fo (erP y) (erV 80) (erW 80) (erC 80) (erK 80) ++ fj 51 y 67 80 83 80 99 80 115 80 ++ [(54, wT), (57, wT)]) (by kernel_rfl) (ai k.2 (ai c.2 (ai w.2 (ai v.2 (ai (show (y == y) = true from by simp) (ai (show (y != 0) = true from by simpa using hy) (ai s (ai k.1 (ai c.1 (ai w.1 (ai v.1 (ai g tt0))))))))))))
theorem Wz (l : LU0) (g : gPG l (erP 20)) (s : sPG l 0) (v : nV l) (w : nW l) (c : nC l) (k : nK l) : FT l := fsR (fo (erP 20) (erV 80) (erW 80) (erC 80) (erK 80) ++ fj 51 0 69 80 85 80 101 80 117 80) (by kernel_rfl) (fc ⟨g, s⟩ v w c k)
theorem VF (l : LU0) (g : gPG l (erP 30)) (s : sPG l 0) (v : nV l) (w : nW l) (c : nC l) (k : nK l) : FT l := fsR (fo (erP 30) (erV 80) (erW 80) (erC 80) (erK 80) ++ fj 51 0 71 80 87 80 103 80 119 80) (by kernel_rfl) (fc ⟨g, s⟩ v w c k)
theorem Wt (l : LU0) (g : gPG l (erP 31)) (s : sPG l 0) (v : nV l) (w : nW l) (c : nC l) (k : nK l) : FT l := fsR (fo (erP 31) (erV 80) (erW 80) (erC 80) (erK 80) ++ fj 51 0 73 80 89 80 105 80 121 80) (by kernel_rfl) (fc ⟨g, s⟩ v w c k)
theorem UI (l : LU0) (g : gPG l (erP 32)) (s : sPG l 0) (v : nV l) (w : nW l) (c : nC l) (k : nK l) : FT l := fsR (fo (erP 32) (erV 80) (erW 80) (erC 80) (erK 80) ++ fj 51 0 75 80 91 80 107 80 123 80) (by kernel_rfl) (fc ⟨g, s⟩ v w c k)
theorem TY (l : LU0) (g : gPG l (erP 33)) (s : sPG l 0) (v : nV l) (w : nW l) (c : nC l) (k : nK l) : FT l := fsR (fo (erP 33) (erV 80) (erW 80) (erC 80) (erK 80) ++ fj 51 0 77 80 93 80 109 80 125 80) (by kernel_rfl) (fc ⟨g, s⟩ v w c k)
theorem aaN (l : LU0) (g : gPG l (erP 1)) (s : sPG l 0) (v : nV l) (w : nW l) (c : nC l) (k : nK l) : FT l := fsR (fo (erP 1) (erV 80) (erW 80) (erC 80) (erK 80) ++ fj 51 0 79 80 95 80 111 80 127 80) (by kernel_rfl) (fc ⟨g, s⟩ v w c k)
theorem WL (l : LU0) (pv : PF) (g : gPG l (.tp [.ag pv.ch, vi0 0])) (s : sPG l 0) (v : nV l) (w : nW l) (c : nC l) (k : nK l) : FT l := fsR (fo (.tp [.ag pv.ch, vi0 0]) (erV 80) (erW 80) (erC 80) (erK 80) ++ fj 51 0 67 80 83 80 99 80 115 80) (by kernel_rfl) (fc ⟨g, s⟩ v w c k)
theorem aaZ (l : LU0) (y : Int) (hy : y ≠ 0) (p : nP l) (g : gVG l (erV y)) (s : sVG l y) (w : nW l) (c : nC l) (k : nK l) : FT l := fsR (fo (erP 80) (erV y) (erW 80) (erC 80) (erK 80) ++ fj 51 80 67 y 83 80 99 80 115 80 ++ [(70, wT), (73, wT)]) (by kernel_rfl) (ai k.2 (ai c.2 (ai w.2 (ai (show (y == y) = true from by simp) (ai (show (y != 0) = true from by simpa using hy) (ai s (ai p.2 (ai k.1 (ai c.1 (ai w.1 (ai g (ai p.1 tt0))))))))))))
theorem TT (l : LU0) (p : nP l) (g : gVG l (erV 20)) (s : sVG l 0) (w : nW l) (c : nC l) (k : nK l) : FT l := fsR (fo (erP 80) (erV 20) (erW 80) (erC 80) (erK 80) ++ fj 51 80 67 0 85 80 101 80 117 80) (by kernel_rfl) (fc p ⟨g, s⟩ w c k)
theorem UF (l : LU0) (p : nP l) (g : gVG l (erV 30)) (s : sVG l 0) (w : nW l) (c : nC l) (k : nK l) : FT l := fsR (fo (erP 80) (erV 30) (erW 80) (erC 80) (erK 80) ++ fj 51 80 67 0 87 80 103 80 119 80) (by kernel_rfl) (fc p ⟨g, s⟩ w c k)
theorem WA (l : LU0) (p : nP l) (g : gVG l (erV 31)) (s : sVG l 0) (w : nW l) (c : nC l) (k : nK l) : FT l := fsR (fo (erP 80) (erV 31) (erW 80) (erC 80) (erK 80) ++ fj 51 80 67 0 89 80 105 80 121 80) (by kernel_rfl) (fc p ⟨g, s⟩ w c k)
theorem Vi (l : LU0) (p : nP l) (g : gVG l (erV 32)) (s : sVG l 0) (w : nW l) (c : nC l) (k : nK l) : FT l := fsR (fo (erP 80) (erV 32) (erW 80) (erC 80) (erK 80) ++ fj 51 80 67 0 91 80 107 80 123 80) (by kernel_rfl) (fc p ⟨g, s⟩ w c k)
theorem Uw (l : LU0) (p : nP l) (g : gVG l (erV 33)) (s : sVG l 0) (w : nW l) (c : nC l) (k : nK l) : FT l := fsR (fo (erP 80) (erV 33) (erW 80) (erC 80) (erK 80) ++ fj 51 80 67 0 93 80 109 80 125 80) (by kernel_rfl) (fc p ⟨g, s⟩ w c k)
theorem YH (l : LU0) (p : nP l) (g : gVG l (erV 1)) (s : sVG l 0) (w : nW l) (c : nC l) (k : nK l) : FT l := fsR (fo (erP 80) (erV 1) (erW 80) (erC 80) (erK 80) ++ fj 51 80 67 0 95 80 111 80 127 80) (by kernel_rfl) (fc p ⟨g, s⟩ w c k)
theorem Um (l : LU0) (vv : VT) (p : nP l) (g : gVG l (.tp [.ag vv.ch, vi0 0])) (s : sVG l 0) (w : nW l) (c : nC l) (k : nK l) : FT l := fsR (fo (erP 80) (.tp [.ag vv.ch, vi0 0]) (erW 80) (erC 80) (erK 80) ++ fj 51 80 67 0 83 80 99 80 115 80) (by kernel_rfl) (fc p ⟨g, s⟩ w c k)
theorem aaJ (l : LU0) (y : Int) (hy : y ≠ 0) (p : nP l) (v : nV l) (g : gWG l (erW y)) (s : sWG l y) (c : nC l) (k : nK l) : FT l := fsR (fo (erP 80) (erV 80) (erW y) (erC 80) (erK 80) ++ fj 51 80 67 80 83 y 99 80 115 80 ++ [(86, wT), (89, wT)]) (by kernel_rfl) (ai k.2 (ai c.2 (ai (show (y == y) = true from by simp) (ai (show (y != 0) = true from by simpa using hy) (ai s (ai v.2 (ai p.2 (ai k.1 (ai c.1 (ai g (ai v.1 (ai p.1 tt0))))))))))))
theorem VQ (l : LU0) (p : nP l) (v : nV l) (g : gWG l (erW 20)) (s : sWG l 0) (c : nC l) (k : nK l) : FT l := fsR (fo (erP 80) (erV 80) (erW 20) (erC 80) (erK 80) ++ fj 51 80 67 80 83 0 101 80 117 80) (by kernel_rfl) (fc p v ⟨g, s⟩ c k)
theorem UA (l : LU0) (p : nP l) (v : nV l) (g : gWG l (erW 30)) (s : sWG l 0) (c : nC l) (k : nK l) : FT l := fsR (fo (erP 80) (erV 80) (erW 30) (erC 80) (erK 80) ++ fj 51 80 67 80 83 0 103 80 119 80) (by kernel_rfl) (fc p v ⟨g, s⟩ c k)
theorem Wp (l : LU0) (p : nP l) (v : nV l) (g : gWG l (erW 31)) (s : sWG l 0) (c : nC l) (k : nK l) : FT l := fsR (fo (erP 80) (erV 80) (erW 31) (erC 80) (erK 80) ++ fj 51 80 67 80 83 0 105 80 121 80) (by kernel_rfl) (fc p v ⟨g, s⟩ c k)
theorem WC (l : LU0) (p : nP l) (v : nV l) (g : gWG l (erW 32)) (s : sWG l 0) (c : nC l) (k : nK l) : FT l := fsR (fo (erP 80) (erV 80) (erW 32) (erC 80) (erK 80) ++ fj 51 80 67 80 83 0 107 80 123 80) (by kernel_rfl) (fc p v ⟨g, s⟩ c k)
theorem UL (l : LU0) (p : nP l) (v : nV l) (g : gWG l (erW 33)) (s : sWG l 0) (c : nC l) (k : nK l) : FT l := fsR (fo (erP 80) (erV 80) (erW 33) (erC 80) (erK 80) ++ fj 51 80 67 80 83 0 109 80 125 80) (by kernel_rfl) (fc p v ⟨g, s⟩ c k)
theorem Zo (l : LU0) (p : nP l) (v : nV l) (g : gWG l (erW 1)) (s : sWG l 0) (c : nC l) (k : nK l) : FT l := fsR (fo (erP 80) (erV 80) (erW 1) (erC 80) (erK 80) ++ fj 51 80 67 80 83 0 111 80 127 80) (by kernel_rfl) (fc p v ⟨g, s⟩ c k)
theorem WS (l : LU0) (p : nP l) (v : nV l) (g : gWG l (erW 0)) (s : sWG l 0) (c : nC l) (k : nK l) : FT l := fsR (fo (erP 80) (erV 80) (erW 0) (erC 80) (erK 80) ++ fj 51 80 67 80 83 0 99 80 115 80) (by kernel_rfl) (fc p v ⟨g, s⟩ c k)
theorem RH (l : LU0) (N : Nat) (C : List Value) (p : nP l) (v : nV l) (h : wH prog 8 [.t (.v (.string (ofL l)))] (fun k => .tp [.sx k N, vi0 0]) (.gr [.l C] 28 4)) (s : sWG l 0) (c : nC l) (k : nK l) : FT l := fsR ((19, { ch := 0, hi := fun _ => 0, ex := 4, av := fun k => .tp [.sx k N, vi0 0], lp := some { kd := 9, I := { n := 0, sl := [] }, ex := .normal, E := { n := 0, sl := [], hp := [(0, .gr [.l C] 28 4)] }, fr := 0 } }) :: (fo (erP 80) (erV 80) (erP 80) (erC 80) (erK 80) ++ fj 51 80 67 80 83 0 99 80 115 80)) (by kernel_rfl) (ai k.2 (ai c.2 (ai s (ai v.2 (ai p.2 (ai k.1 (ai c.1 (ai h (ai v.1 (ai p.1 tt0))))))))))
theorem YB (l : LU0) (y : Int) (hy : y ≠ 0) (p : nP l) (v : nV l) (w : nW l) (g : gCG l (erC y)) (s : sCG l y) (k : nK l) : FT l := fsR (fo (erP 80) (erV 80) (erW 80) (erC y) (erK 80) ++ fj 51 80 67 80 83 80 99 y 115 80 ++ [(102, wT), (105, wT)]) (by kernel_rfl) (ai k.2 (ai (show (y == y) = true from by simp) (ai (show (y != 0) = true from by simpa using hy) (ai s (ai w.2 (ai v.2 (ai p.2 (ai k.1 (ai g (ai w.1 (ai v.1 (ai p.1 tt0))))))))))))
theorem UG (l : LU0) (p : nP l) (v : nV l) (w : nW l) (g : gCG l (erC 20)) (s : sCG l 0) (k : nK l) : FT l := fsR (fo (erP 80) (erV 80) (erW 80) (erC 20) (erK 80) ++ fj 51 80 67 80 83 80 99 0 117 80) (by kernel_rfl) (fc p v w ⟨g, s⟩ k)
theorem Wr (l : LU0) (p : nP l) (v : nV l) (w : nW l) (g : gCG l (erC 30)) (s : sCG l 0) (k : nK l) : FT l := fsR (fo (erP 80) (erV 80) (erW 80) (erC 30) (erK 80) ++ fj 51 80 67 80 83 80 99 0 119 80) (by kernel_rfl) (fc p v w ⟨g, s⟩ k)
theorem UH (l : LU0) (p : nP l) (v : nV l) (w : nW l) (g : gCG l (erC 31)) (s : sCG l 0) (k : nK l) : FT l := fsR (fo (erP 80) (erV 80) (erW 80) (erC 31) (erK 80) ++ fj 51 80 67 80 83 80 99 0 121 80) (by kernel_rfl) (fc p v w ⟨g, s⟩ k)
theorem Vs (l : LU0) (p : nP l) (v : nV l) (w : nW l) (g : gCG l (erC 32)) (s : sCG l 0) (k : nK l) : FT l := fsR (fo (erP 80) (erV 80) (erW 80) (erC 32) (erK 80) ++ fj 51 80 67 80 83 80 99 0 123 80) (by kernel_rfl) (fc p v w ⟨g, s⟩ k)
theorem U8 (l : LU0) (p : nP l) (v : nV l) (w : nW l) (g : gCG l (erC 33)) (s : sCG l 0) (k : nK l) : FT l := fsR (fo (erP 80) (erV 80) (erW 80) (erC 33) (erK 80) ++ fj 51 80 67 80 83 80 99 0 125 80) (by kernel_rfl) (fc p v w ⟨g, s⟩ k)
theorem Zu (l : LU0) (p : nP l) (v : nV l) (w : nW l) (g : gCG l (erC 1)) (s : sCG l 0) (k : nK l) : FT l := fsR (fo (erP 80) (erV 80) (erW 80) (erC 1) (erK 80) ++ fj 51 80 67 80 83 80 99 0 127 80) (by kernel_rfl) (fc p v w ⟨g, s⟩ k)
theorem U1 (l : LU0) (a b : Int) (p : nP l) (v : nV l) (w : nW l) (g : gCG l (.tp [.ag [.c (.slice none 0 0), ci0 a, ci0 b], vi0 0])) (s : sCG l 0) (k : nK l) : FT l := fsR (fo (erP 80) (erV 80) (erW 80) (.tp [.ag [.c (.slice none 0 0), ci0 a, ci0 b], vi0 0]) (erK 80) ++ fj 51 80 67 80 83 80 99 0 115 80) (by kernel_rfl) (fc p v w ⟨g, s⟩ k)
theorem R7 (l : LU0) (N : Nat) (C : List Value) (a b : Int) (p : nP l) (v : nV l) (w : nW l) (h : wH prog 9 [.t (.v (.string (ofL l)))] (fun k => .tp [.ag (.sx k N :: [ci0 a, ci0 b]), vi0 0]) (.gr [.l C] 94 23)) (s : sCG l 0) (k : nK l) : FT l := fsR ((26, { ch := 0, hi := fun _ => 0, ex := 4, av := fun k => .tp [.ag (.sx k N :: [ci0 a, ci0 b]), vi0 0], lp := some { kd := 9, I := { n := 0, sl := [] }, ex := .normal, E := { n := 0, sl := [], hp := [(0, .gr [.l C] 94 23)] }, fr := 0 } }) :: (fo (erP 80) (erV 80) (erW 80) (erP 80) (erK 80) ++ fj 51 80 67 80 83 80 99 0 115 80)) (by kernel_rfl) (ai k.2 (ai s (ai w.2 (ai v.2 (ai p.2 (ai k.1 (ai h (ai w.1 (ai v.1 (ai p.1 tt0))))))))))
theorem XX (l : LU0) (y : Int) (hy : y ≠ 0) (p : nP l) (v : nV l) (w : nW l) (c : nC l) (g : gKG l (erK y)) (s : sKG l y) : FT l := fsR (fo (erP 80) (erV 80) (erW 80) (erC 80) (erK y) ++ fj 51 80 67 80 83 80 99 80 115 y ++ [(118, wT), (121, wT)]) (by kernel_rfl) (ai (show (y == y) = true from by simp) (ai (show (y != 0) = true from by simpa using hy) (ai s (ai c.2 (ai w.2 (ai v.2 (ai p.2 (ai g (ai c.1 (ai w.1 (ai v.1 (ai p.1 tt0))))))))))))
theorem Vr (l : LU0) (p : nP l) (v : nV l) (w : nW l) (c : nC l) (g : gKG l (erK 20)) (s : sKG l 0) : FT l := fsR (fo (erP 80) (erV 80) (erW 80) (erC 80) (erK 20) ++ fj 51 80 67 80 83 80 99 80 115 0) (by kernel_rfl) (fc p v w c ⟨g, s⟩)
theorem U7 (l : LU0) (p : nP l) (v : nV l) (w : nW l) (c : nC l) (g : gKG l (erK 30)) (s : sKG l 0) : FT l := fsR (fo (erP 80) (erV 80) (erW 80) (erC 80) (erK 30) ++ fj 51 80 67 80 83 80 99 80 115 0) (by kernel_rfl) (fc p v w c ⟨g, s⟩)
theorem US (l : LU0) (p : nP l) (v : nV l) (w : nW l) (c : nC l) (g : gKG l (erK 31)) (s : sKG l 0) : FT l := fsR (fo (erP 80) (erV 80) (erW 80) (erC 80) (erK 31) ++ fj 51 80 67 80 83 80 99 80 115 0) (by kernel_rfl) (fc p v w c ⟨g, s⟩)
theorem Ur (l : LU0) (p : nP l) (v : nV l) (w : nW l) (c : nC l) (g : gKG l (erK 32)) (s : sKG l 0) : FT l := fsR (fo (erP 80) (erV 80) (erW 80) (erC 80) (erK 32) ++ fj 51 80 67 80 83 80 99 80 115 0) (by kernel_rfl) (fc p v w c ⟨g, s⟩)
theorem Wf (l : LU0) (p : nP l) (v : nV l) (w : nW l) (c : nC l) (g : gKG l (erK 33)) (s : sKG l 0) : FT l := fsR (fo (erP 80) (erV 80) (erW 80) (erC 80) (erK 33) ++ fj 51 80 67 80 83 80 99 80 115 0) (by kernel_rfl) (fc p v w c ⟨g, s⟩)
theorem aay (l : LU0) (p : nP l) (v : nV l) (w : nW l) (c : nC l) (g : gKG l (erK 1)) (s : sKG l 0) : FT l := fsR (fo (erP 80) (erV 80) (erW 80) (erC 80) (erK 1) ++ fj 51 80 67 80 83 80 99 80 115 0) (by kernel_rfl) (fc p v w c ⟨g, s⟩)
theorem Vl (l : LU0) (b : A2) (p : nP l) (v : nV l) (w : nW l) (c : nC l) (g : gKG l (.tp [.ag (.c (.slice none 0 0) :: pt2 b), vi0 0])) (s : sKG l 0) : FT l := fsR (fo (erP 80) (erV 80) (erW 80) (erC 80) (.tp [.ag (.c (.slice none 0 0) :: pt2 b), vi0 0]) ++ fj 51 80 67 80 83 80 99 80 115 0) (by kernel_rfl) (fc p v w c ⟨g, s⟩)
theorem QQ (l : LU0) (N : Nat) (C : List Value) (b : A2) (p : nP l) (v : nV l) (w : nW l) (c : nC l) (h : wH prog 10 [.t (.v (.string (ofL l)))] (fun k => .tp [.ag (.sx k N :: pt2 b), vi0 0]) (.gr [.l C] 26 13)) (s : sKG l 0) : FT l := fsR ((34, { ch := 0, hi := fun _ => 0, ex := 4, av := fun k => .tp [.ag (.sx k N :: pt2 b), vi0 0], lp := some { kd := 9, I := { n := 0, sl := [] }, ex := .normal, E := { n := 0, sl := [], hp := [(0, .gr [.l C] 26 13)] }, fr := 0 } }) :: (fo (erP 80) (erV 80) (erW 80) (erC 80) (erP 80) ++ fj 51 80 67 80 83 80 99 80 115 0)) (by kernel_rfl) (ai s (ai c.2 (ai w.2 (ai v.2 (ai p.2 (ai h (ai c.1 (ai w.1 (ai v.1 (ai p.1 tt0))))))))))
theorem LJ (l : LU0) (hs : l.length <= 9223372036854775807) (h : l.take 4 ≠ mgP) : nP l := by
 have e1 : Bc l = 80 := if_neg h
 have e2 : shP l = 80 := if_neg h
 have h1 := Ce l hs
 rw [e2] at h1
 refine ⟨?_, sPI h1⟩
 have h2 := TO l (by rw [e1]; decide)
 rw [e1] at h2
 exact gPI h2
theorem noP (l : LU0) (h : Bc l ≠ 0) : Gives prog 6 [.t (.v (.string (ofL l)))] (.tp [.ag sK, vi0 (Bc l)]) := by
 exact TO l h
theorem Oh (l : LU0) (hs : l.length <= 9223372036854775807) (h : l.take 4 ≠ mgV) : nV l := by
 have e1 : AI l = 80 := if_neg h
 have e2 : shV l = 80 := if_neg h
 have h1 := BS l hs
 rw [e2] at h1
 refine ⟨?_, sVI h1⟩
 have h2 := Tx l (by rw [e1]; decide)
 rw [e1] at h2
 exact gVI h2
theorem noV (l : LU0) (h : AI l ≠ 0) : Gives prog 7 [.t (.v (.string (ofL l)))] (.tp [.ag u7, vi0 (AI l)]) := by
 exact Tx l h
theorem N8 (l : LU0) (hs : l.length <= 9223372036854775807) (h : l.take 4 ≠ mgW) : nW l := by
 have e1 : Aa l = 80 := if_neg h
 have e2 : shW l = 80 := if_neg h
 have h1 := CE l hs
 rw [e2] at h1
 refine ⟨?_, sWI h1⟩
 rcases AK l with ⟨_, h2⟩ | ⟨h2, _⟩
 ·rw [e1] at h2; exact gWI h2
 ·rw [e1] at h2; exact absurd h2 (by decide)
theorem noW (l : LU0) (h : Aa l ≠ 0) : Gives prog 8 [.t (.v (.string (ofL l)))] (.tp [.v (.slice none 0 0), vi0 (Aa l)]) := by
 rcases AK l with ⟨_, h2⟩ | ⟨h2, _⟩
 ·exact h2
 ·exact absurd h2 h
theorem Mi (l : LU0) (hs : l.length <= 9223372036854775807) (h : l.take 4 ≠ qm) : nC l := by
 have e1 : C3 l = 80 := if_neg h
 have e2 : shC l = 80 := if_neg h
 have h1 := Cn l hs
 rw [e2] at h1
 refine ⟨?_, sCI h1⟩
 rcases BF l with ⟨_, h2⟩ | ⟨h2, _⟩
 ·rw [e1] at h2; exact gCI h2
 ·rw [e1] at h2; exact absurd h2 (by decide)
theorem noC (l : LU0) (h : C3 l ≠ 0) : Gives prog 9 [.t (.v (.string (ofL l)))] (.tp [.ag zcL, vi0 (C3 l)]) := by
 rcases BF l with ⟨_, h2⟩ | ⟨h2, _⟩
 ·exact h2
 ·exact absurd h2 h
theorem Nq (l : LU0) (hs : l.length <= 9223372036854775807) (h : l.take 4 ≠ qy) : nK l := by
 have e1 : Ef l = 80 := if_neg h
 have e2 : shK l = 80 := if_neg h
 have h1 := Cj l hs
 rw [e2] at h1
 refine ⟨?_, sKI h1⟩
 rcases By l with ⟨_, h2⟩ | ⟨h2, _⟩
 ·rw [e1] at h2; exact gKI h2
 ·rw [e1] at h2; exact absurd h2 (by decide)
theorem noK (l : LU0) (h : Ef l ≠ 0) : Gives prog 10 [.t (.v (.string (ofL l)))] (.tp [.ag zk, vi0 (Ef l)]) := by
 rcases By l with ⟨_, h2⟩ | ⟨h2, _⟩
 ·exact h2
 ·exact absurd h2 h
theorem onP (l : LU0) (hs : l.length <= 9223372036854775807) (hm : l.take 4 = mgP) : FT l := by
 have v := Oh l hs (by rw [hm]; decide)
 have w := N8 l hs (by rw [hm]; decide)
 have c := Mi l hs (by rw [hm]; decide)
 have k := Nq l hs (by rw [hm]; decide)
 have hS := Ce l hs
 obtain ⟨r1, r2⟩ := UP l
 by_cases hw : shP l = 0
 ·rw [hw] at hS
  rcases r2 hw with e | e | e | e | e | e | e
  ·exact WL l (gpR l) (gPI (WD l e)) (sPI hS) v w c k
  ·have hN := noP l (by rw [e]; decide)
   rw [e] at hN
   exact Wz l (gPI hN) (sPI hS) v w c k
  ·have hN := noP l (by rw [e]; decide)
   rw [e] at hN
   exact VF l (gPI hN) (sPI hS) v w c k
  ·have hN := noP l (by rw [e]; decide)
   rw [e] at hN
   exact Wt l (gPI hN) (sPI hS) v w c k
  ·have hN := noP l (by rw [e]; decide)
   rw [e] at hN
   exact UI l (gPI hN) (sPI hS) v w c k
  ·have hN := noP l (by rw [e]; decide)
   rw [e] at hN
   exact TY l (gPI hN) (sPI hS) v w c k
  ·have hN := noP l (by rw [e]; decide)
   rw [e] at hN
   exact aaN l (gPI hN) (sPI hS) v w c k
 ·have e := r1 hw
  have hN := noP l (by rw [e]; exact hw)
  rw [e] at hN
  exact Yp l _ hw (gPI hN) (sPI hS) v w c k
theorem onV (l : LU0) (hs : l.length <= 9223372036854775807) (hm : l.take 4 = mgV) : FT l := by
 have p := LJ l hs (by rw [hm]; decide)
 have w := N8 l hs (by rw [hm]; decide)
 have c := Mi l hs (by rw [hm]; decide)
 have k := Nq l hs (by rw [hm]; decide)
 have hS := BS l hs
 obtain ⟨r1, r2⟩ := Un l
 by_cases hw : shV l = 0
 ·rw [hw] at hS
  rcases r2 hw with e | e | e | e | e | e | e
  ·exact Um l (gcR l) p (gVI (VL l e)) (sVI hS) w c k
  ·have hN := noV l (by rw [e]; decide)
   rw [e] at hN
   exact TT l p (gVI hN) (sVI hS) w c k
  ·have hN := noV l (by rw [e]; decide)
   rw [e] at hN
   exact UF l p (gVI hN) (sVI hS) w c k
  ·have hN := noV l (by rw [e]; decide)
   rw [e] at hN
   exact WA l p (gVI hN) (sVI hS) w c k
  ·have hN := noV l (by rw [e]; decide)
   rw [e] at hN
   exact Vi l p (gVI hN) (sVI hS) w c k
  ·have hN := noV l (by rw [e]; decide)
   rw [e] at hN
   exact Uw l p (gVI hN) (sVI hS) w c k
  ·have hN := noV l (by rw [e]; decide)
   rw [e] at hN
   exact YH l p (gVI hN) (sVI hS) w c k
 ·have e := r1 hw
  have hN := noV l (by rw [e]; exact hw)
  rw [e] at hN
  exact aaZ l _ hw p (gVI hN) (sVI hS) w c k
theorem onW (l : LU0) (hs : l.length <= 9223372036854775807) (hm : l.take 4 = mgW) : FT l := by
 have p := LJ l hs (by rw [hm]; decide)
 have v := Oh l hs (by rw [hm]; decide)
 have c := Mi l hs (by rw [hm]; decide)
 have k := Nq l hs (by rw [hm]; decide)
 have hS := CE l hs
 obtain ⟨r1, r2⟩ := T8 l
 by_cases hw : shW l = 0
 ·rw [hw] at hS
  rcases r2 hw with e | e | e | e | e | e | e
  ·rcases AK l with ⟨h1, _⟩ | ⟨_, hm, h4, hN, hx, h9⟩
   ·exact absurd e h1
   ·have hn := rN hm rfl
    rcases Nat.eq_zero_or_pos (c4 (l.drop 4)) with hz | hz
    ·exact WS l p v (gWI (Vp l hn hm h4 hN hx hz)) (sWI hS) c k
    ·exact RH l _ _ p v (W6 l hn hm h4 hN hx hz h9) (sWI hS) c k
  ·have hN := noW l (by rw [e]; decide)
   rw [e] at hN
   exact VQ l p v (gWI hN) (sWI hS) c k
  ·have hN := noW l (by rw [e]; decide)
   rw [e] at hN
   exact UA l p v (gWI hN) (sWI hS) c k
  ·have hN := noW l (by rw [e]; decide)
   rw [e] at hN
   exact Wp l p v (gWI hN) (sWI hS) c k
  ·have hN := noW l (by rw [e]; decide)
   rw [e] at hN
   exact WC l p v (gWI hN) (sWI hS) c k
  ·have hN := noW l (by rw [e]; decide)
   rw [e] at hN
   exact UL l p v (gWI hN) (sWI hS) c k
  ·have hN := noW l (by rw [e]; decide)
   rw [e] at hN
   exact Zo l p v (gWI hN) (sWI hS) c k
 ·have e := r1 hw
  have hN := noW l (by rw [e]; exact hw)
  rw [e] at hN
  exact aaJ l _ hw p v (gWI hN) (sWI hS) c k
theorem onC (l : LU0) (hs : l.length <= 9223372036854775807) (hm : l.take 4 = qm) : FT l := by
 have p := LJ l hs (by rw [hm]; decide)
 have v := Oh l hs (by rw [hm]; decide)
 have w := N8 l hs (by rw [hm]; decide)
 have k := Nq l hs (by rw [hm]; decide)
 have hS := Cn l hs
 obtain ⟨r1, r2⟩ := Uk l
 by_cases hw : shC l = 0
 ·rw [hw] at hS
  rcases r2 hw with e | e | e | e | e | e | e
  ·rcases BF l with ⟨h1, _⟩ | ⟨_, hm, h4, hN, h5, h6, hx, hg, hq, hr⟩
   ·exact absurd e h1
   ·have hn := rN hm rfl
    rcases Nat.eq_zero_or_pos (c4 (l.drop 4)) with hz | hz
    ·exact U1 l _ _ p v w (gCI (ZK l _ rfl hn hm h4 hN _ rfl h5 _ rfl h6 hx hz hq (PO l _ _ _ hz true ⟨fun _ => hr, fun _ => rfl⟩))) (sCI hS) k
    ·exact R7 l _ _ _ _ p v w (XR l _ rfl hn hm h4 hN _ rfl h5 _ rfl h6 hx hz (wn _ _ hg) hq (Fo l _ _ _ hz true ⟨fun _ => hr, fun _ => rfl⟩)) (sCI hS) k
  ·have hN := noC l (by rw [e]; decide)
   rw [e] at hN
   exact UG l p v w (gCI hN) (sCI hS) k
  ·have hN := noC l (by rw [e]; decide)
   rw [e] at hN
   exact Wr l p v w (gCI hN) (sCI hS) k
  ·have hN := noC l (by rw [e]; decide)
   rw [e] at hN
   exact UH l p v w (gCI hN) (sCI hS) k
  ·have hN := noC l (by rw [e]; decide)
   rw [e] at hN
   exact Vs l p v w (gCI hN) (sCI hS) k
  ·have hN := noC l (by rw [e]; decide)
   rw [e] at hN
   exact U8 l p v w (gCI hN) (sCI hS) k
  ·have hN := noC l (by rw [e]; decide)
   rw [e] at hN
   exact Zu l p v w (gCI hN) (sCI hS) k
 ·have e := r1 hw
  have hN := noC l (by rw [e]; exact hw)
  rw [e] at hN
  exact YB l _ hw p v w (gCI hN) (sCI hS) k
theorem onK (l : LU0) (hs : l.length <= 9223372036854775807) (hm : l.take 4 = qy) : FT l := by
 have p := LJ l hs (by rw [hm]; decide)
 have v := Oh l hs (by rw [hm]; decide)
 have w := N8 l hs (by rw [hm]; decide)
 have c := Mi l hs (by rw [hm]; decide)
 have hS := Cj l hs
 obtain ⟨r1, r2⟩ := VK l
 by_cases hw : shK l = 0
 ·rw [hw] at hS
  rcases r2 hw with e | e | e | e | e | e | e
  ·rcases By l with ⟨h1, _⟩ | ⟨_, hm, h4, hN, hx, h8, h⟩
   ·exact absurd e h1
   ·have hn := rN hm rfl
    rcases Nat.eq_zero_or_pos (c4 (l.drop 4)) with hz | hz
    ·rw [Bx _ (by rw [h8]), hz] at h
     exact Vl l _ p v w c (gKI (J3 l _ rfl hn hm h4 hN hx hz h)) (sKI hS)
    ·exact QQ l _ _ _ p v w c (KS l _ rfl hn hm h4 hN hx hz _ h8 h) (sKI hS)
  ·have hN := noK l (by rw [e]; decide)
   rw [e] at hN
   exact Vr l p v w c (gKI hN) (sKI hS)
  ·have hN := noK l (by rw [e]; decide)
   rw [e] at hN
   exact U7 l p v w c (gKI hN) (sKI hS)
  ·have hN := noK l (by rw [e]; decide)
   rw [e] at hN
   exact US l p v w c (gKI hN) (sKI hS)
  ·have hN := noK l (by rw [e]; decide)
   rw [e] at hN
   exact Ur l p v w c (gKI hN) (sKI hS)
  ·have hN := noK l (by rw [e]; decide)
   rw [e] at hN
   exact Wf l p v w c (gKI hN) (sKI hS)
  ·have hN := noK l (by rw [e]; decide)
   rw [e] at hN
   exact aay l p v w c (gKI hN) (sKI hS)
 ·have e := r1 hw
  have hN := noK l (by rw [e]; exact hw)
  rw [e] at hN
  exact XX l _ hw p v w c (gKI hN) (sKI hS)
theorem yJ (l : LU0) (hs : l.length <= 9223372036854775807) : FT l := by
 by_cases hP : l.take 4 = mgP
 ·exact onP l hs hP
 by_cases hV : l.take 4 = mgV
 ·exact onV l hs hV
 by_cases hW : l.take 4 = mgW
 ·exact onW l hs hW
 by_cases hC : l.take 4 = qm
 ·exact onC l hs hC
 by_cases hK : l.take 4 = qy
 ·exact onK l hs hK
 exact Rk l (LJ l hs hP) (Oh l hs hV) (N8 l hs hW) (Mi l hs hC) (Nq l hs hK)
theorem xV (s : ByteArray) (hs : s.size <= 9223372036854775807) : Gives prog 3 [.t (.v (.string s))] (.v (.bool true)) := by
 have h : Gives prog 3 [.t (.v (.string (ofL s.data.toList)))] (.v (.bool true)) := yJ s.data.toList (by simpa using hs)
 rwa [show ofL s.data.toList = s from by unfold ofL; rw [Array.toArray_toList]] at h
end Go.Proofs.YtokjhbmmdmeafaaGreat
