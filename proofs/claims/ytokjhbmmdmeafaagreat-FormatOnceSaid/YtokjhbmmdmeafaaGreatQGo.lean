/- Pruned: Go. -/
import Derived.Test.YtokjhbmmdmeafaaGreatQGm
set_option linter.unusedSimpArgs false
set_option linter.unusedVariables false
namespace Go.Proofs.YtokjhbmmdmeafaaGreat
open Go.Ev Go.RowKit
open Tryz
theorem Ti {j len : Nat} {cs : List Ch} {x : Value} (hp : pureC cs = true) : ∀ (ρ ρ' : Names) k u v, ρ' j = some u -> ρ k = some u -> Rep ρ' (.tp [.ag (.sx j len :: cs), .v x]) v -> Rep ρ (.tp [.ag (.sx k len :: cs), .v x]) v := by
 intro ρ ρ' k u v h1 h2 h
 obtain ⟨e1, e2⟩ := pW ρ hp
 obtain ⟨e3, e4⟩ := pW ρ' hp
 simp only [Rep, Reps, flatR, Ch.cells, DefC, Ch.def_, Names.at, Names.room, h1, h2, e1, e3] at h ⊢
 obtain ⟨xs, ⟨y, r, rfl, hy, hr⟩, rfl⟩ := h
 exact ⟨_, ⟨y, r, rfl, ⟨⟨hy.1.1, e2⟩, hy.2⟩, hr⟩, rfl⟩
def gkX (sb : LU0) (e : Int) : LState := { n := 42, sl := [(2, .p 0 0), (4, .p 23 0)], hp := [(0, .own zk 54), (23, .own [.c (.string (ofL sb)), ci0 e] 85)] }
def Kj (sb : LU0) (e : Int) : LState := { n := 42, sl := [(2, .p 0 0), (4, .p 19 0)], hp := [(0, .own zk 54), (19, .own [.c (.string (ofL sb)), ci0 e] 85)] }
def gkY (e : Int) : LState := { n := 42, sl := [(2, .p 0 0), (3, vi0 e)], hp := [(0, .own zk 54)] }
theorem su (sb : LU0) (e : Int) : Sound prog 0 false (Bl f10 1) (gkX sb e).aa .normal (gkY e).aa := by
 have hL : True /\ (some (gkY e) = some (gkY e)) := ⟨tt0, rfl⟩
 exact qn (P := prog) (X := pN _) (env := []) trivial (rH (P := prog) (X := pN _) (env := []) (os := oL []) trivial 0) (os := oL []) (fb := 0) (k := 62) (I := gkX sb e) (E := gkY e) (by kernel_rfl) (ai (ai (ai (ai (ai (ai (ai hL tt0) tt0) (ai (ai (ai hL tt0) tt0) tt0)) (ai (ai (ai (ai hL tt0) tt0) tt0) tt0)) (ai (ai (ai (ai (ai hL tt0) tt0) tt0) tt0) tt0)) (ai (ai (ai (ai (ai (ai hL tt0) tt0) tt0) tt0) tt0) tt0)) (ai (ai (ai (ai (ai (ai (ai hL tt0) tt0) (ai (ai (ai hL tt0) tt0) tt0)) (ai (ai (ai (ai hL tt0) tt0) tt0) tt0)) (ai (ai (ai (ai (ai hL tt0) tt0) tt0) tt0) tt0)) (ai (ai (ai (ai (ai (ai hL tt0) tt0) (ai (ai (ai hL tt0) tt0) tt0)) (ai (ai (ai (ai hL tt0) tt0) tt0) tt0)) (ai (ai (ai (ai (ai hL tt0) tt0) (ai (ai (ai hL tt0) tt0) tt0)) (ai (ai (ai (ai hL tt0) tt0) tt0) tt0)) tt0)) tt0)) tt0))
theorem BB (sb : LU0) (e : Int) : Sound prog 0 false (Bl f10 1) (Kj sb e).aa .normal (gkY e).aa := by
 have hL : True /\ (some (gkY e) = some (gkY e)) := ⟨tt0, rfl⟩
 exact qn (P := prog) (X := pN _) (env := []) trivial (rH (P := prog) (X := pN _) (env := []) (os := oL []) trivial 0) (os := oL []) (fb := 0) (k := 62) (I := Kj sb e) (E := gkY e) (by kernel_rfl) (ai (ai (ai (ai (ai (ai (ai hL tt0) tt0) (ai (ai (ai hL tt0) tt0) tt0)) (ai (ai (ai (ai hL tt0) tt0) tt0) tt0)) (ai (ai (ai (ai (ai hL tt0) tt0) tt0) tt0) tt0)) (ai (ai (ai (ai (ai (ai hL tt0) tt0) tt0) tt0) tt0) tt0)) (ai (ai (ai (ai (ai (ai (ai hL tt0) tt0) (ai (ai (ai hL tt0) tt0) tt0)) (ai (ai (ai (ai hL tt0) tt0) tt0) tt0)) (ai (ai (ai (ai (ai hL tt0) tt0) tt0) tt0) tt0)) (ai (ai (ai (ai (ai (ai hL tt0) tt0) (ai (ai (ai hL tt0) tt0) tt0)) (ai (ai (ai (ai hL tt0) tt0) tt0) tt0)) (ai (ai (ai (ai (ai hL tt0) tt0) (ai (ai (ai hL tt0) tt0) tt0)) (ai (ai (ai (ai hL tt0) tt0) tt0) tt0)) tt0)) tt0)) tt0))
def tL : LU0 := [67, 72, 75, 49]
def Hs (N : Nat) (sb : LU0) (e : Int) : LState := { n := 42, sl := [(2, .p 0 0), (4, .p 23 0), (6, .p 118 0), (17, vi0 (N : Int)), (18, vi0 0)], hp := [(0, .own zk 54), (23, .own [.c (.string (ofL sb)), ci0 e] 85), (118, .own zk 54)] }
theorem IJ (N : Nat) (sb : LU0) (e : Int) : qw (Hs N sb e).aa (gkZ N sb e) [(106, 118)] := by
 have e : qw (Hs N sb e).aa (gkZ N sb e) [(106, 118)] = (((true = true /\ 0 = 0) /\ (true = true /\ 0 = 0) /\ (true = true /\ 0 = 0) /\ (Value.int .i64 (N : Int)) = (Value.int .i64 (N : Int)) /\ (Value.int .i64 0) = (Value.int .i64 0) /\ True) /\ ((54 = 54 /\ flat zk = flat zk) /\ (85 = 85 /\ flat [.c (.string (ofL sb)), ci0 e] = flat [.c (.string (ofL sb)), ci0 e]) /\ (54 = 54 /\ flat zk = flat zk) /\ True)) := by kernel_rfl
 rw [e]
 exact ⟨⟨rr0, rr0, rr0, rfl, rfl, tt0⟩, rr0, rr0, rr0, tt0⟩
abbrev wN (l : LU0) : List XV := [.t (.v (.string (ofL l)))]
def PR : Nat × Ora := (87, lpO { kd := 5, I := Kj [] 80, ex := .normal, E := gkY 80, fr := 94 })
theorem uO {a : List XV} {r : AV} {b : Prop} (o : LO0) (hb : b) (h : fnA prog (pN _) [rf, rR] 3 (oL o) f10 a = some (r, b) := by kernel_rfl) (hv : ∃ v, r.val? = some v := by exact ⟨_, rfl⟩) : Gives prog 10 a r := pL (P := prog) (X := pN _) (env := [rf, rR]) ⟨qA, qN, tt0⟩ func10 3 (oL o) h hv hb
theorem afH (l : LU0) (hn : l.length < 4) : Gives prog 10 (wN l) (.tp [.ag zk, vi0 80]) :=
 uO [(9, wT), PR] (ai (show some (Kj [] 80) = some (Kj [] 80) from rfl) (ai (BB [] 80) (ai (show decide ((((ofL l).size : Nat) : Int) < 4) = true from decide_eq_true (by show  ((l.length : Nat) : Int) < 4; omega)) tt0)))
def XT {l : LU0} (hn : 4 <= l.length) := PLift.up (show (0 : Int) <= 4 /\ (4 : Int) <= (ofL l).size from ⟨by decide, by show (4 : Int) <= ((l).length : Nat); omega⟩)
def XG {l : LU0} (hn : 4 <= l.length) := PLift.up (ai (XT hn).down (ai (show decide ((((ofL l).size : Nat) : Int) < 4) = false from decide_eq_false (by show ¬ ((l.length : Nat) : Int) < 4; omega)) tt0))
theorem ae3 (l : LU0) (hn : 4 <= l.length) (hm : l.take 4 ≠ tL) : Gives prog 10 (wN l) (.tp [.ag zk, vi0 80]) :=
 uO [(9, wF), (14, rO 5 0), (16, wT), PR] (ai (show some (Kj [] 80) = some (Kj [] 80) from rfl) (ai (BB [] 80) (ai (show (!((ofL (l.take 4)).toList == (ofL tL).toList)) = true from TT hm)
   (XG hn).down)))
def Ir {l : LU0} (hm : l.take 4 = tL) := PLift.up (show (!((ofL (l.take 4)).toList == (ofL tL).toList)) = false from by rw [hm]; simp)
def WR {l : LU0} (hn : 4 <= l.length) (hm : l.take 4 = tL) := PLift.up (ai (XT hn).down (ai (Ir hm).down
   (XG hn).down))
theorem ago (l : LU0) (hn : 4 <= l.length) (hm : l.take 4 = tL) (h4 : (l.drop 4).length < 4) : Gives prog 10 (wN l) (.tp [.ag zk, vi0 3]) :=
 uO [(9, wF), (14, rO 5 0), (16, wF), (21, rO 5 0), (40, wT), (65, wT), (95, lpO { kd := 5, I := gkX (l.drop 4) 3, ex := .normal, E := gkY 3, fr := 102 })] (ai (show some (gkX (l.drop 4) 3) = some (gkX (l.drop 4) 3) from rfl) (ai (su (l.drop 4) 3) (ai (show ((((ofL (l.drop 4)).size : Nat) : Int) != 96) = true from by
    have h1 : (((l.drop 4).length : Nat) : Int) ≠ 96 := by omega
    exact bne_iff_ne.2 h1) (ai (show decide ((((ofL (l.drop 4)).size : Nat) : Int) < 4) = true from decide_eq_true (by show (((l.drop 4).length : Nat) : Int) < 4; omega))
   (WR hn hm).down))))
abbrev Df (l : LU0) := A5 (qJ (l.drop 4) 0)
abbrev Cn (l : LU0) := AF (qJ (l.drop 4) 1)
abbrev C7 (l : LU0) := DX (qJ (l.drop 4) 2)
def SJ {l : LU0} {N : Nat} (hNe : c4 (l.drop 4) = N) (hn : 4 <= l.length) (hm : l.take 4 = tL) (h4 : 4 <= (l.drop 4).length) := PLift.up (ai (cs4 h4) (ai (vQ hNe) (ai (cw (l.drop 4) 3) (ai (cid 3 h4 (by decide)) (ai (vN (l.drop 4)) (ai (C7 l) (ai (cw (l.drop 4) 2) (ai (cid 2 h4 (by decide)) (ai (vT (l.drop 4)) (ai (Cn l) (ai (cw (l.drop 4) 1) (ai (cid 1 h4 (by decide)) (ai (Df l) (ai (cw (l.drop 4) 0) (ai (cid 0 h4 (by decide)) (ai (clt h4)
   (WR hn hm).down))))))))))))))))
def aaI (l : LU0) : Nat × Ora := (53, tn (cn (l.drop 4) 0 * 16777216))
def Zp (l : LU0) : Nat × Ora := (60, tn (cn (l.drop 4) 1 * 65536))
def aaQ (l : LU0) : Nat × Ora := (68, tn (cn (l.drop 4) 2 * 256))
def ZU (l : LU0) : Nat × Ora := (74, rO 1 (cn (l.drop 4) 3))
def aac (l : LU0) : Nat × Ora := (66, rO 1 (cn (l.drop 4) 2))
def YP (l : LU0) : Nat × Ora := (58, rO 1 (cn (l.drop 4) 1))
def Y9 (l : LU0) : Nat × Ora := (51, rO 1 (cn (l.drop 4) 0))
def ZH (l : LU0) : Nat × Ora := (75, tn (cn (l.drop 4) 3))
def Zz (l : LU0) : Nat × Ora := (67, tn (cn (l.drop 4) 2))
def aaC (l : LU0) : Nat × Ora := (59, tn (cn (l.drop 4) 1))
def YU (l : LU0) : Nat × Ora := (52, tn (cn (l.drop 4) 0))
def Zi (l : LU0) : Nat × Ora := (69, tn (co2 (l.drop 4)))
def Zb (l : LU0) : Nat × Ora := (61, tn (co1 (l.drop 4)))
def wD (l : LU0) (N : Nat) : LO0 := [(9, wF), (14, rO 5 0), (16, wF), (21, rO 5 0), (40, wF), (Y9 l), (YU l), (aaI l), (YP l), (aaC l), (Zp l), (Zb l), (aac l), (Zz l), (aaQ l), (Zi l), (ZU l), (ZH l), (76, tn (N)), (83, rO 5 0)]
theorem abj (l : LU0) (N : Nat) (hNe : c4 (l.drop 4) = N) (hn : 4 <= l.length) (hm : l.take 4 = tL) (h4 : 4 <= (l.drop 4).length) (hN : 4096 < N) (hx : ((l.drop 4).drop 4).length = 96) : Gives prog 10 (wN l) (.tp [.ag zk, vi0 2]) :=
 uO ((wD l N) ++ [(89, wT), (108, wF), (131, lpO { kd := 5, I := gkX ((l.drop 4).drop 4) 2, ex := .normal, E := gkY 2, fr := 138 })]) (ai (show some (gkX ((l.drop 4).drop 4) 2) = some (gkX ((l.drop 4).drop 4) 2) from rfl) (ai (su ((l.drop 4).drop 4) 2) (ai (show ((((ofL ((l.drop 4).drop 4)).size : Nat) : Int) != 96) = false from by
    have h1 : ((((l.drop 4).drop 4).length : Nat) : Int) = 96 := by omega
    exact z8 h1) (ai (show decide (((N : Nat) : Int) > 4096) = true from decide_eq_true (by omega))
   (SJ hNe hn hm h4).down))))
theorem ado (l : LU0) (N : Nat) (hNe : c4 (l.drop 4) = N) (hn : 4 <= l.length) (hm : l.take 4 = tL) (h4 : 4 <= (l.drop 4).length) (hN : 4096 < N) (hx : ((l.drop 4).drop 4).length ≠ 96) : Gives prog 10 (wN l) (.tp [.ag zk, vi0 2]) :=
 uO ((wD l N) ++ [(89, wT), (108, wT), (138, lpO { kd := 5, I := gkX ((l.drop 4).drop 4) 2, ex := .normal, E := gkY 2, fr := 145 })]) (ai (show some (gkX ((l.drop 4).drop 4) 2) = some (gkX ((l.drop 4).drop 4) 2) from rfl) (ai (su ((l.drop 4).drop 4) 2) (ai (show ((((ofL ((l.drop 4).drop 4)).size : Nat) : Int) != 96) = true from by
    have h1 : ((((l.drop 4).drop 4).length : Nat) : Int) ≠ 96 := by omega
    exact bne_iff_ne.2 h1) (ai (show decide (((N : Nat) : Int) > 4096) = true from decide_eq_true (by omega))
   (SJ hNe hn hm h4).down))))
def PG {l : LU0} {N : Nat} (hNe : c4 (l.drop 4) = N) (hn : 4 <= l.length) (hm : l.take 4 = tL) (h4 : 4 <= (l.drop 4).length) (hN : N <= 4096) := PLift.up (ai (show IntKind.i64.wrap (((N * 48 : Nat) : Int) + 96) = ((N * 48 + 96 : Nat) : Int) from by
    rw [show ((N * 48 : Nat) : Int) + 96 = ((N * 48 + 96 : Nat) : Int) by omega]
    exact qc (by omega)) (ai (show IntKind.i64.wrap (((N : Nat) : Int) * 48) = ((N * 48 : Nat) : Int) from by
    rw [show ((N : Nat) : Int) * 48 = ((N * 48 : Nat) : Int) by omega]
    exact qc (by omega)) (ai (show IntKind.i64.wrap ((N : Nat) : Int) = ((N : Nat) : Int) from qc (by omega)) (ai (show decide (((N : Nat) : Int) > 4096) = false from decide_eq_false (by omega))
   (SJ hNe hn hm h4).down))))
def ZL (N : Nat) : Nat × Ora := (97, { ch := 1, hi := fun _ => N * 48 + 96 })
def Zs (N : Nat) : Nat × Ora := (96, { ch := 1, hi := fun _ => N * 48 })
def YW (N : Nat) : Nat × Ora := (92, { ch := 1, hi := fun _ => N })
def y9 (N : Nat) : LO0 := [(89, wF), (YW N), (Zs N), (ZL N)]
theorem KK (l : LU0) (N : Nat) (hNe : c4 (l.drop 4) = N) (hn : 4 <= l.length) (hm : l.take 4 = tL) (h4 : 4 <= (l.drop 4).length) (hN : N <= 4096) (hx : ((l.drop 4).drop 4).length ≠ 48 * N + 96) (hz : N = 0) : Gives prog 10 (wN l) (.tp [.ag zk, vi0 3]) :=
 uO ((wD l N) ++ (y9 N) ++ [(105, wT), (121, lpO { I := Hs N ((l.drop 4).drop 4) 3, ex := .exit 0, E := Ze ((l.drop 4).drop 4) 3, fr := 122 }), (140, lpO { kd := 5, I := gkX ((l.drop 4).drop 4) 3, ex := .normal, E := gkY 3, fr := 147 })]) (ai (show some (gkX ((l.drop 4).drop 4) 3) = some (gkX ((l.drop 4).drop 4) 3) from rfl) (ai (su ((l.drop 4).drop 4) 3) (ai (show some (Hs N ((l.drop 4).drop 4) 3) = some (Hs N ((l.drop 4).drop 4) 3) from rfl) (ai ((uc (FK N hz ((l.drop 4).drop 4) 3)).pre [(106, 118)] (by kernel_rfl) (IJ N ((l.drop 4).drop 4) 3)) (ai (show ((((ofL ((l.drop 4).drop 4)).size : Nat) : Int) != ((N * 48 + 96 : Nat) : Int)) = true from by
    have h1 : ((((l.drop 4).drop 4).length : Nat) : Int) ≠ ((N * 48 + 96 : Nat) : Int) := by omega
    exact bne_iff_ne.2 h1)
   (PG hNe hn hm h4 hN).down)))))
abbrev xV (l : LU0) (N : Nat) := nst 48 g1E N (3, ((l.drop 4).drop 4))
def R3 (l : LU0) (N : Nat) := PLift.up (show ((nst 48 g1E N (3, ((l.drop 4).drop 4))).1 != 0) = true from by rw [tW (show ((3, ((l.drop 4).drop 4)) : Int × LU0).1 ≠ 0 from (by show (3 : Int) ≠ 0; decide))]; rfl)
theorem J4 (l : LU0) (N : Nat) (hNe : c4 (l.drop 4) = N) (hn : 4 <= l.length) (hm : l.take 4 = tL) (h4 : 4 <= (l.drop 4).length) (hN : N <= 4096) (hx : ((l.drop 4).drop 4).length ≠ 48 * N + 96) (hz : 0 < N) : Gives prog 10 (wN l) (.tp [.ag zk, vi0 (nst 48 g1E N (3, ((l.drop 4).drop 4))).1]) :=
 uO ((wD l N) ++ (y9 N) ++ [(105, wT), (121, lpO { I := Hs N ((l.drop 4).drop 4) 3, ex := .exit 0, E := gkE (qO (gkVs (3, ((l.drop 4).drop 4)) N)) N (xV l N).2 (xV l N).1, fr := 122 }), (130, wT), (139, wT), (140, lpO { kd := 5, I := gkX (xV l N).2 (xV l N).1, ex := .normal, E := gkY (xV l N).1, fr := 147 })]) (ai (show some (gkX (xV l N).2 (xV l N).1) = some (gkX (xV l N).2 (xV l N).1) from rfl) (ai (su (xV l N).2 (xV l N).1) (ai (R3 l N).down (ai (R3 l N).down (ai (show some (Hs N ((l.drop 4).drop 4) 3) = some (Hs N ((l.drop 4).drop 4) 3) from rfl) (ai ((F8 N hz (by omega) (3, ((l.drop 4).drop 4)) (fun h => by exact absurd (show (3 : Int) = 0 from h) (by decide))).pre [(106, 118)] (by kernel_rfl) (IJ N ((l.drop 4).drop 4) 3)) (ai (show ((((ofL ((l.drop 4).drop 4)).size : Nat) : Int) != ((N * 48 + 96 : Nat) : Int)) = true from by
    have h1 : ((((l.drop 4).drop 4).length : Nat) : Int) ≠ ((N * 48 + 96 : Nat) : Int) := by omega
    exact bne_iff_ne.2 h1)
   (PG hNe hn hm h4 hN).down)))))))
def I1 (l : LU0) (N : Nat) := PLift.up (show some (gkZ N ((l.drop 4).drop 4) 0) = some (gkZ N ((l.drop 4).drop 4) 0) from rfl)
abbrev CY (l : LU0) := g2E (((l.drop 4).drop 4).take 96)
def PE (l : LU0) (N : Nat) : Nat × Ora := (109, lpO { I := gkZ N ((l.drop 4).drop 4) 0, ex := .exit 0, E := Ze ((l.drop 4).drop 4) 0, fr := 110 })
theorem E7 (l : LU0) (N : Nat) (hNe : c4 (l.drop 4) = N) (hn : 4 <= l.length) (hm : l.take 4 = tL) (h4 : 4 <= (l.drop 4).length) (hN : N <= 4096) (hx : ((l.drop 4).drop 4).length = 48 * N + 96) (hz : N = 0) (h : g2E (((l.drop 4).drop 4).take 96) ≠ 0) : Gives prog 10 (wN l) (.tp [.ag zk, vi0 (g2E (((l.drop 4).drop 4).take 96))]) := by
 have hR : 96 <= ((l.drop 4).drop 4).length := by omega
 exact uO ((wD l N) ++ (y9 N) ++ [(105, wF), (PE l N), (125, rO 5 0), (139, rO 5 0), (157, wT), (166, wT), (167, lpO { kd := 5, I := gkX (((l.drop 4).drop 4).drop 96) (CY l), ex := .normal, E := gkY (CY l), fr := 174 })]) (ai (show some (gkX (((l.drop 4).drop 4).drop 96) (CY l)) = some (gkX (((l.drop 4).drop 4).drop 96) (CY l)) from rfl) (ai (su (((l.drop 4).drop 4).drop 96) (CY l)) (ai (show (g2E (((l.drop 4).drop 4).take 96) != 0) = true from by simpa using h) (ai (show (g2E (((l.drop 4).drop 4).take 96) != 0) = true from by simpa using h) (ai (show (0 : Int) <= 96 /\ (96 : Int) <= (ofL ((l.drop 4).drop 4)).size from ⟨by decide, by show (96 : Int) <= (((l.drop 4).drop 4).length : Nat); omega⟩) (ai (show (0 : Int) <= 96 /\ (96 : Int) <= (ofL ((l.drop 4).drop 4)).size from ⟨by decide, by show (96 : Int) <= (((l.drop 4).drop 4).length : Nat); omega⟩) (ai (I1 l N).down (ai (uc (FK N hz ((l.drop 4).drop 4) 0)) (ai (show ((((ofL ((l.drop 4).drop 4)).size : Nat) : Int) != ((N * 48 + 96 : Nat) : Int)) = false from by
    have h1 : ((((l.drop 4).drop 4).length : Nat) : Int) = ((N * 48 + 96 : Nat) : Int) := by omega
    exact z8 h1) (ai (show IntKind.i64.wrap (((N * 48 : Nat) : Int) + 96) = ((N * 48 + 96 : Nat) : Int) from by
    rw [show ((N * 48 : Nat) : Int) + 96 = ((N * 48 + 96 : Nat) : Int) by omega]
    exact qc (by omega)) (ai (show IntKind.i64.wrap (((N : Nat) : Int) * 48) = ((N * 48 : Nat) : Int) from by
    rw [show ((N : Nat) : Int) * 48 = ((N * 48 : Nat) : Int) by omega]
    exact qc (by omega)) (ai (show IntKind.i64.wrap ((N : Nat) : Int) = ((N : Nat) : Int) from qc (by omega)) (ai (show decide (((N : Nat) : Int) > 4096) = false from decide_eq_false (by omega)) (ai (cs4 h4) (ai (vQ hNe) (ai (cw (l.drop 4) 3) (ai (cid 3 h4 (by decide)) (ai (vN (l.drop 4)) (ai (C7 l) (ai (cw (l.drop 4) 2) (ai (cid 2 h4 (by decide)) (ai (vT (l.drop 4)) (ai (Cn l) (ai (cw (l.drop 4) 1) (ai (cid 1 h4 (by decide)) (ai (Df l) (ai (cw (l.drop 4) 0) (ai (cid 0 h4 (by decide)) (ai (clt h4) (ai (show (0 : Int) <= 4 /\ (4 : Int) <= (ofL l).size from ⟨by decide, by show (4 : Int) <= ((l).length : Nat); omega⟩) (ai (Ir hm).down (ai (show (0 : Int) <= 4 /\ (4 : Int) <= (ofL l).size from ⟨by decide, by show (4 : Int) <= ((l).length : Nat); omega⟩) (ai (show decide ((((ofL l).size : Nat) : Int) < 4) = false from decide_eq_false (by show ¬ ((l.length : Nat) : Int) < 4; omega)) tt0)))))))))))))))))))))))))))))))))
theorem Ns (l : LU0) (N : Nat) (hNe : c4 (l.drop 4) = N) (hn : 4 <= l.length) (hm : l.take 4 = tL) (h4 : 4 <= (l.drop 4).length) (hN : N <= 4096) (hx : ((l.drop 4).drop 4).length = 48 * N + 96) (hz : N = 0) (h : g2E (((l.drop 4).drop 4).take 96) = 0) : Gives prog 10 (wN l) (.tp [.ag (.c (.slice none 0 0) :: pt2 (g2V (((l.drop 4).drop 4).take 96))), vi0 0]) := by
 have hR : 96 <= ((l.drop 4).drop 4).length := by omega
 exact uO ((wD l N) ++ (y9 N) ++ [(105, wF), (PE l N), (125, rO 5 0), (139, rO 5 0), (157, wF), (166, wF)]) (ai (show (g2E (((l.drop 4).drop 4).take 96) != 0) = false from by rw [h]; rfl) (ai (show (g2E (((l.drop 4).drop 4).take 96) != 0) = false from by rw [h]; rfl) (ai (show (0 : Int) <= 96 /\ (96 : Int) <= (ofL ((l.drop 4).drop 4)).size from ⟨by decide, by show (96 : Int) <= (((l.drop 4).drop 4).length : Nat); omega⟩) (ai (show (0 : Int) <= 96 /\ (96 : Int) <= (ofL ((l.drop 4).drop 4)).size from ⟨by decide, by show (96 : Int) <= (((l.drop 4).drop 4).length : Nat); omega⟩) (ai (I1 l N).down (ai (uc (FK N hz ((l.drop 4).drop 4) 0)) (ai (show ((((ofL ((l.drop 4).drop 4)).size : Nat) : Int) != ((N * 48 + 96 : Nat) : Int)) = false from by
    have h1 : ((((l.drop 4).drop 4).length : Nat) : Int) = ((N * 48 + 96 : Nat) : Int) := by omega
    exact z8 h1) (ai (show IntKind.i64.wrap (((N * 48 : Nat) : Int) + 96) = ((N * 48 + 96 : Nat) : Int) from by
    rw [show ((N * 48 : Nat) : Int) + 96 = ((N * 48 + 96 : Nat) : Int) by omega]
    exact qc (by omega)) (ai (show IntKind.i64.wrap (((N : Nat) : Int) * 48) = ((N * 48 : Nat) : Int) from by
    rw [show ((N : Nat) : Int) * 48 = ((N * 48 : Nat) : Int) by omega]
    exact qc (by omega)) (ai (show IntKind.i64.wrap ((N : Nat) : Int) = ((N : Nat) : Int) from qc (by omega)) (ai (show decide (((N : Nat) : Int) > 4096) = false from decide_eq_false (by omega)) (ai (cs4 h4) (ai (vQ hNe) (ai (cw (l.drop 4) 3) (ai (cid 3 h4 (by decide)) (ai (vN (l.drop 4)) (ai (C7 l) (ai (cw (l.drop 4) 2) (ai (cid 2 h4 (by decide)) (ai (vT (l.drop 4)) (ai (Cn l) (ai (cw (l.drop 4) 1) (ai (cid 1 h4 (by decide)) (ai (Df l) (ai (cw (l.drop 4) 0) (ai (cid 0 h4 (by decide)) (ai (clt h4) (ai (show (0 : Int) <= 4 /\ (4 : Int) <= (ofL l).size from ⟨by decide, by show (4 : Int) <= ((l).length : Nat); omega⟩) (ai (Ir hm).down (ai (show (0 : Int) <= 4 /\ (4 : Int) <= (ofL l).size from ⟨by decide, by show (4 : Int) <= ((l).length : Nat); omega⟩) (ai (show decide ((((ofL l).size : Nat) : Int) < 4) = false from decide_eq_false (by show ¬ ((l.length : Nat) : Int) < 4; omega)) tt0)))))))))))))))))))))))))))))))
abbrev xT (l : LU0) (N : Nat) := nst 48 g1E N (0, ((l.drop 4).drop 4))
theorem J2 (l : LU0) (N : Nat) (hNe : c4 (l.drop 4) = N) (hn : 4 <= l.length) (hm : l.take 4 = tL) (h4 : 4 <= (l.drop 4).length) (hN : N <= 4096) (hx : ((l.drop 4).drop 4).length = 48 * N + 96) (hz : 0 < N) (h : (nst 48 g1E N (0, ((l.drop 4).drop 4))).1 ≠ 0) : Gives prog 10 (wN l) (.tp [.ag zk, vi0 (nst 48 g1E N (0, ((l.drop 4).drop 4))).1]) :=
 uO ((wD l N) ++ (y9 N) ++ [(105, wF), (109, lpO { I := gkZ N ((l.drop 4).drop 4) 0, ex := .exit 0, E := gkE (qO (gkVs (0, ((l.drop 4).drop 4)) N)) N (xT l N).2 (xT l N).1, fr := 110 }), (118, wT), (127, wT), (128, lpO { kd := 5, I := gkX (xT l N).2 (xT l N).1, ex := .normal, E := gkY (xT l N).1, fr := 135 })]) (ai (show some (gkX (xT l N).2 (xT l N).1) = some (gkX (xT l N).2 (xT l N).1) from rfl) (ai (su (xT l N).2 (xT l N).1) (ai (show ((nst 48 g1E N (0, ((l.drop 4).drop 4))).1 != 0) = true from by simpa using h) (ai (show ((nst 48 g1E N (0, ((l.drop 4).drop 4))).1 != 0) = true from by simpa using h) (ai (I1 l N).down (ai (F8 N hz (by omega) (0, ((l.drop 4).drop 4)) (fun _ => by show 48 * N <= ((l.drop 4).drop 4).length; omega)) (ai (show ((((ofL ((l.drop 4).drop 4)).size : Nat) : Int) != ((N * 48 + 96 : Nat) : Int)) = false from by
    have h1 : ((((l.drop 4).drop 4).length : Nat) : Int) = ((N * 48 + 96 : Nat) : Int) := by omega
    exact z8 h1)
   (PG hNe hn hm h4 hN).down)))))))
def TF (l : LU0) (N : Nat) (R : LU0) : Nat × Ora := (109, lpO { I := gkZ N ((l.drop 4).drop 4) 0, ex := .exit 0, E := gkE (qO (gkVs (0, ((l.drop 4).drop 4)) N)) N R 0, fr := 110 })
theorem FD (l : LU0) (N : Nat) (hNe : c4 (l.drop 4) = N) (hn : 4 <= l.length) (hm : l.take 4 = tL) (h4 : 4 <= (l.drop 4).length) (hN : N <= 4096) (hx : ((l.drop 4).drop 4).length = 48 * N + 96) (hz : 0 < N) (R : LU0) (h8 : (nst 48 g1E N (0, ((l.drop 4).drop 4))) = (0, R)) (h : g2E (R.take 96) ≠ 0) : Gives prog 10 (wN l) (.tp [.ag zk, vi0 (g2E (R.take 96))]) := by
 have hR : 96 <= R.length := by obtain ⟨_, h6, _⟩ := qh N (0, ((l.drop 4).drop 4)) (by rw [h8]); rw [h8] at h6; rw [show R = ((l.drop 4).drop 4).drop (48 * N) from congrArg Prod.snd h6, List.length_drop]; omega
 exact uO ((wD l N) ++ (y9 N) ++ [(105, wF), (TF l N R), (125, rO 5 0), (139, rO 5 0), (157, wT), (166, wT), (167, lpO { kd := 5, I := gkX (R.drop 96) (g2E (R.take 96)), ex := .normal, E := gkY (g2E (R.take 96)), fr := 174 })]) (ai (show some (gkX (R.drop 96) (g2E (R.take 96))) = some (gkX (R.drop 96) (g2E (R.take 96))) from rfl) (ai (su (R.drop 96) (g2E (R.take 96))) (ai (show (g2E (R.take 96) != 0) = true from by simpa using h) (ai (show (g2E (R.take 96) != 0) = true from by simpa using h) (ai (show (0 : Int) <= 96 /\ (96 : Int) <= (ofL R).size from ⟨by decide, by show (96 : Int) <= (R.length : Nat); omega⟩) (ai (show (0 : Int) <= 96 /\ (96 : Int) <= (ofL R).size from ⟨by decide, by show (96 : Int) <= (R.length : Nat); omega⟩) (ai (I1 l N).down (ai ((by have hh := F8 N hz (by omega) (0, ((l.drop 4).drop 4)) (fun _ => by show 48 * N <= ((l.drop 4).drop 4).length; omega); rw [h8] at hh; exact hh)) (ai (show ((((ofL ((l.drop 4).drop 4)).size : Nat) : Int) != ((N * 48 + 96 : Nat) : Int)) = false from by
    have h1 : ((((l.drop 4).drop 4).length : Nat) : Int) = ((N * 48 + 96 : Nat) : Int) := by omega
    exact z8 h1) (ai (show IntKind.i64.wrap (((N * 48 : Nat) : Int) + 96) = ((N * 48 + 96 : Nat) : Int) from by
    rw [show ((N * 48 : Nat) : Int) + 96 = ((N * 48 + 96 : Nat) : Int) by omega]
    exact qc (by omega)) (ai (show IntKind.i64.wrap (((N : Nat) : Int) * 48) = ((N * 48 : Nat) : Int) from by
    rw [show ((N : Nat) : Int) * 48 = ((N * 48 : Nat) : Int) by omega]
    exact qc (by omega)) (ai (show IntKind.i64.wrap ((N : Nat) : Int) = ((N : Nat) : Int) from qc (by omega)) (ai (show decide (((N : Nat) : Int) > 4096) = false from decide_eq_false (by omega)) (ai (cs4 h4) (ai (vQ hNe) (ai (cw (l.drop 4) 3) (ai (cid 3 h4 (by decide)) (ai (vN (l.drop 4)) (ai (C7 l) (ai (cw (l.drop 4) 2) (ai (cid 2 h4 (by decide)) (ai (vT (l.drop 4)) (ai (Cn l) (ai (cw (l.drop 4) 1) (ai (cid 1 h4 (by decide)) (ai (Df l) (ai (cw (l.drop 4) 0) (ai (cid 0 h4 (by decide)) (ai (clt h4) (ai (show (0 : Int) <= 4 /\ (4 : Int) <= (ofL l).size from ⟨by decide, by show (4 : Int) <= ((l).length : Nat); omega⟩) (ai (Ir hm).down (ai (show (0 : Int) <= 4 /\ (4 : Int) <= (ofL l).size from ⟨by decide, by show (4 : Int) <= ((l).length : Nat); omega⟩) (ai (show decide ((((ofL l).size : Nat) : Int) < 4) = false from decide_eq_false (by show ¬ ((l.length : Nat) : Int) < 4; omega)) tt0)))))))))))))))))))))))))))))))))
theorem NW (l : LU0) (N : Nat) (hNe : c4 (l.drop 4) = N) (hn : 4 <= l.length) (hm : l.take 4 = tL) (h4 : 4 <= (l.drop 4).length) (hN : N <= 4096) (hx : ((l.drop 4).drop 4).length = 48 * N + 96) (hz : 0 < N) (R : LU0) (h8 : (nst 48 g1E N (0, ((l.drop 4).drop 4))) = (0, R)) (h : g2E (R.take 96) = 0) : ye prog 10 (wN l) (fun k => .tp [.ag (.sx k N :: pt2 (g2V (R.take 96))), vi0 0]) (.gr [.l (qO (gkVs (0, ((l.drop 4).drop 4)) N))] 26 13) := by
 have hR : 96 <= R.length := by obtain ⟨_, h6, _⟩ := qh N (0, ((l.drop 4).drop 4)) (by rw [h8]); rw [h8] at h6; rw [show R = ((l.drop 4).drop 4).drop (48 * N) from congrArg Prod.snd h6, List.length_drop]; omega
 exact Bi (P := prog) (X := pN _) (env := [rf, rR]) ⟨qA, qN, tt0⟩ func10 (fun args w => Go.Proofs.enters_of (P := prog) func10 (by kernel_rfl) rfl args w) 3 (oL ((wD l N) ++ (y9 N) ++ [(105, wF), (TF l N R), (125, rO 5 0), (139, rO 5 0), (157, wF), (166, wF)])) (r0 := .tp [.ag (.sx 24 N :: pt2 (g2V (R.take 96))), vi0 0]) 24 (by kernel_rfl) rfl (ai (show (g2E (R.take 96) != 0) = false from by rw [h]; rfl) (ai (show (g2E (R.take 96) != 0) = false from by rw [h]; rfl) (ai (show (0 : Int) <= 96 /\ (96 : Int) <= (ofL R).size from ⟨by decide, by show (96 : Int) <= (R.length : Nat); omega⟩) (ai (show (0 : Int) <= 96 /\ (96 : Int) <= (ofL R).size from ⟨by decide, by show (96 : Int) <= (R.length : Nat); omega⟩) (ai (I1 l N).down (ai ((by have hh := F8 N hz (by omega) (0, ((l.drop 4).drop 4)) (fun _ => by show 48 * N <= ((l.drop 4).drop 4).length; omega); rw [h8] at hh; exact hh)) (ai (show ((((ofL ((l.drop 4).drop 4)).size : Nat) : Int) != ((N * 48 + 96 : Nat) : Int)) = false from by
    have h1 : ((((l.drop 4).drop 4).length : Nat) : Int) = ((N * 48 + 96 : Nat) : Int) := by omega
    exact z8 h1) (ai (show IntKind.i64.wrap (((N * 48 : Nat) : Int) + 96) = ((N * 48 + 96 : Nat) : Int) from by
    rw [show ((N * 48 : Nat) : Int) + 96 = ((N * 48 + 96 : Nat) : Int) by omega]
    exact qc (by omega)) (ai (show IntKind.i64.wrap (((N : Nat) : Int) * 48) = ((N * 48 : Nat) : Int) from by
    rw [show ((N : Nat) : Int) * 48 = ((N * 48 : Nat) : Int) by omega]
    exact qc (by omega)) (ai (show IntKind.i64.wrap ((N : Nat) : Int) = ((N : Nat) : Int) from qc (by omega)) (ai (show decide (((N : Nat) : Int) > 4096) = false from decide_eq_false (by omega)) (ai (cs4 h4) (ai (vQ hNe) (ai (cw (l.drop 4) 3) (ai (cid 3 h4 (by decide)) (ai (vN (l.drop 4)) (ai (C7 l) (ai (cw (l.drop 4) 2) (ai (cid 2 h4 (by decide)) (ai (vT (l.drop 4)) (ai (Cn l) (ai (cw (l.drop 4) 1) (ai (cid 1 h4 (by decide)) (ai (Df l) (ai (cw (l.drop 4) 0) (ai (cid 0 h4 (by decide)) (ai (clt h4) (ai (show (0 : Int) <= 4 /\ (4 : Int) <= (ofL l).size from ⟨by decide, by show (4 : Int) <= ((l).length : Nat); omega⟩) (ai (Ir hm).down (ai (show (0 : Int) <= 4 /\ (4 : Int) <= (ofL l).size from ⟨by decide, by show (4 : Int) <= ((l).length : Nat); omega⟩) (ai (show decide ((((ofL l).size : Nat) : Int) < 4) = false from decide_eq_false (by show ¬ ((l.length : Nat) : Int) < 4; omega)) tt0))))))))))))))))))))))))))))))) _ (Ti rfl)
end Go.Proofs.YtokjhbmmdmeafaaGreat
set_option linter.unusedSimpArgs false
set_option linter.unusedVariables false
namespace Go.Proofs.YtokjhbmmdmeafaaGreat
open Go.Ev Go.RowKit
open Tryz
theorem UA {sz : Nat} {E : LU0 -> Int} {st : Int × LU0} (h : st.1 = 0) : (rst sz E st).1 = E (st.2.take sz) := congrArg Prod.fst (if_pos h)
theorem Vp {st : Int × LU0} (h : st.1 = 0) : st = (0, st.2) := Prod.ext h rfl
def Dt (l : LU0) (N : Nat) : Int :=
 if l.take 4 = tL then (if ((l.drop 4)).length < 4 then 3 else if 4096 < N then 2 else
  if (((l.drop 4).drop 4)).length = 48 * N + 96 then (rst 96 g2E (nst 48 g1E (N) (0, ((l.drop 4).drop 4)))).1 else 3) else 80
theorem Oy (l : LU0) (N : Nat) (hNe : c4 (l.drop 4) = N) : (Dt l N ≠ 0 /\ Gives prog 10 [.t (.v (.string (ofL l)))] (.tp [.ag zk, vi0 (Dt l N)])) ∨
  (Dt l N = 0 /\ l.take 4 = tL /\ 4 <= ((l.drop 4)).length /\ N <= 4096 /\ (((l.drop 4).drop 4)).length = 48 * N + 96 /\ nst 48 g1E (N) (0, ((l.drop 4).drop 4)) = (0, (nst 48 g1E (N) (0, ((l.drop 4).drop 4))).2) /\ g2E ((nst 48 g1E (N) (0, ((l.drop 4).drop 4))).2.take 96) = 0) := by
 by_cases hm : l.take 4 = tL
 ·have hn : 4 <= l.length := by
   have := congrArg List.length hm
   rw [List.length_take] at this
   have h5 : tL.length = 4 := rfl
   omega
  have e0 : Dt l N = _ := if_pos hm
  by_cases h4 : ((l.drop 4)).length < 4
  ·rw [e0.trans (if_pos h4)]
   exact .inl ⟨by decide, ago l hn hm h4⟩
  have e1 := e0.trans (if_neg h4)
  have h4 : 4 <= ((l.drop 4)).length := by omega
  by_cases hN : 4096 < N
  ·rw [e1.trans (if_pos hN)]
   refine .inl ⟨by decide, ?_⟩
   by_cases hx : (((l.drop 4).drop 4)).length = 96
   ·exact abj l N hNe hn hm h4 hN hx
   ·exact ado l N hNe hn hm h4 hN hx
  have e2 := e1.trans (if_neg hN)
  have hN : N <= 4096 := by omega
  by_cases hx : (((l.drop 4).drop 4)).length = 48 * N + 96
  ·have e3 := e2.trans (if_pos hx)
   by_cases h8 : (nst 48 g1E (N) (0, ((l.drop 4).drop 4))).1 = 0
   ·have h9 : nst 48 g1E (N) (0, ((l.drop 4).drop 4)) = (0, (nst 48 g1E (N) (0, ((l.drop 4).drop 4))).2) := Vp h8
    have e4 : Dt l N = g2E ((nst 48 g1E (N) (0, ((l.drop 4).drop 4))).2.take 96) := by
     exact e3.trans (UA h8)
    by_cases h : g2E ((nst 48 g1E (N) (0, ((l.drop 4).drop 4))).2.take 96) = 0
    ·exact .inr ⟨e4.trans h, hm, h4, hN, hx, h9, h⟩
    ·rw [e4]
     refine .inl ⟨h, ?_⟩
     rcases Nat.eq_zero_or_pos (N) with hz | hz
     ·skip
      have e9 : (nst 48 g1E (N) (0, ((l.drop 4).drop 4))).2 = ((l.drop 4).drop 4) := by rw [hz]; rfl
      rw [e9]
      exact E7 l N hNe hn hm h4 hN hx hz (by rw [e9] at h; exact h)
     ·exact FD l N hNe hn hm h4 hN hx hz _ h9 h
   ·have e4 := e3
    rw [yI h8] at e4
    rw [e4]
    refine .inl ⟨h8, ?_⟩
    rcases Nat.eq_zero_or_pos (N) with hz | hz
    ·exact absurd (by rw [hz]; rfl) h8
    ·exact J2 l N hNe hn hm h4 hN hx hz h8
  ·rw [e2.trans (if_neg hx)]
   refine .inl ⟨by decide, ?_⟩
   rcases Nat.eq_zero_or_pos (N) with hz | hz
   ·exact KK l N hNe hn hm h4 hN hx hz
   ·have e3 := J4 l N hNe hn hm h4 hN hx hz
    rw [tW (show ((3, ((l.drop 4).drop 4)) : Int × LU0).1 ≠ 0 from (by show (3 : Int) ≠ 0; decide))] at e3
    exact e3
 ·have e : Dt l N = 80 := if_neg hm
  rw [e]
  refine .inl ⟨by decide, ?_⟩
  by_cases hn : l.length < 4
  ·exact afH l hn
  ·exact ae3 l (by omega) hm
def G5 (l : LU0) : Int := Dt l (c4 (l.drop 4))
theorem Ib (l : LU0) : (G5 l ≠ 0 /\ Gives prog 10 [.t (.v (.string (ofL l)))] (.tp [.ag zk, vi0 (G5 l)])) ∨
  (G5 l = 0 /\ l.take 4 = tL /\ 4 <= ((l.drop 4)).length /\ c4 (l.drop 4) <= 4096 /\ (((l.drop 4).drop 4)).length = 48 * c4 (l.drop 4) + 96 /\ nst 48 g1E (c4 (l.drop 4)) (0, ((l.drop 4).drop 4)) = (0, (nst 48 g1E (c4 (l.drop 4)) (0, ((l.drop 4).drop 4))).2) /\ g2E ((nst 48 g1E (c4 (l.drop 4)) (0, ((l.drop 4).drop 4))).2.take 96) = 0) :=
 Oy l _ rfl
end Go.Proofs.YtokjhbmmdmeafaaGreat
