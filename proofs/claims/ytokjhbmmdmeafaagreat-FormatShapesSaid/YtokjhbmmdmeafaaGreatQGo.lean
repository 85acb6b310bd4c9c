/- Pruned: Go. -/
import Derived.Test.YtokjhbmmdmeafaaGreatQGm
set_option linter.unusedSimpArgs false
set_option linter.unusedVariables false
namespace Go.Proofs.YtokjhbmmdmeafaaGreat
open Go.Ev Go.RowKit
open Tryz
theorem Nb {j len : Nat} {cs : List Ch} {x : Value} (hp : pureC cs = true) : ∀ (ρ ρ' : Names) k u v, ρ' j = some u -> ρ k = some u -> Rep ρ' (.tp [.ag (.sx j len :: cs), .v x]) v -> Rep ρ (.tp [.ag (.sx k len :: cs), .v x]) v := by
 intro ρ ρ' k u v h1 h2 h
 obtain ⟨e1, e2⟩ := pK ρ hp
 obtain ⟨e3, e4⟩ := pK ρ' hp
 simp only [Rep, Reps, flatR, Ch.cells, DefC, Ch.def_, Names.at, Names.room, h1, h2, e1, e3] at h ⊢
 obtain ⟨xs, ⟨y, r, rfl, hy, hr⟩, rfl⟩ := h
 exact ⟨_, ⟨y, r, rfl, ⟨⟨hy.1.1, e2⟩, hy.2⟩, hr⟩, rfl⟩
def gkX (sb : LU0) (e : Int) : LState := { n := 42, sl := [(2, .p 0 0), (4, .p 23 0)], hp := [(0, .own zk 54), (23, .own [.c (.string (ofL sb)), ci0 e] 85)] }
def Ic (sb : LU0) (e : Int) : LState := { n := 42, sl := [(2, .p 0 0), (4, .p 19 0)], hp := [(0, .own zk 54), (19, .own [.c (.string (ofL sb)), ci0 e] 85)] }
def gkY (e : Int) : LState := { n := 42, sl := [(2, .p 0 0), (3, vi0 e)], hp := [(0, .own zk 54)] }
theorem rQ (sb : LU0) (e : Int) : Sound prog 0 false (Ay f10 1) (gkX sb e).aa .normal (gkY e).aa := by
 have hL : True /\ (some (gkY e) = some (gkY e)) := ⟨tt0, rfl⟩
 exact p9 (P := prog) (X := pC _) (env := []) trivial (qW (P := prog) (X := pC _) (env := []) (os := oL []) trivial 0) (os := oL []) (fb := 0) (k := 62) (I := gkX sb e) (E := gkY e) (by kernel_rfl) (ai (ai (ai (ai (ai (ai (ai hL tt0) tt0) (ai (ai (ai hL tt0) tt0) tt0)) (ai (ai (ai (ai hL tt0) tt0) tt0) tt0)) (ai (ai (ai (ai (ai hL tt0) tt0) tt0) tt0) tt0)) (ai (ai (ai (ai (ai (ai hL tt0) tt0) tt0) tt0) tt0) tt0)) (ai (ai (ai (ai (ai (ai (ai hL tt0) tt0) (ai (ai (ai hL tt0) tt0) tt0)) (ai (ai (ai (ai hL tt0) tt0) tt0) tt0)) (ai (ai (ai (ai (ai hL tt0) tt0) tt0) tt0) tt0)) (ai (ai (ai (ai (ai (ai hL tt0) tt0) (ai (ai (ai hL tt0) tt0) tt0)) (ai (ai (ai (ai hL tt0) tt0) tt0) tt0)) (ai (ai (ai (ai (ai hL tt0) tt0) (ai (ai (ai hL tt0) tt0) tt0)) (ai (ai (ai (ai hL tt0) tt0) tt0) tt0)) tt0)) tt0)) tt0))
theorem zD (sb : LU0) (e : Int) : Sound prog 0 false (Ay f10 1) (Ic sb e).aa .normal (gkY e).aa := by
 have hL : True /\ (some (gkY e) = some (gkY e)) := ⟨tt0, rfl⟩
 exact p9 (P := prog) (X := pC _) (env := []) trivial (qW (P := prog) (X := pC _) (env := []) (os := oL []) trivial 0) (os := oL []) (fb := 0) (k := 62) (I := Ic sb e) (E := gkY e) (by kernel_rfl) (ai (ai (ai (ai (ai (ai (ai hL tt0) tt0) (ai (ai (ai hL tt0) tt0) tt0)) (ai (ai (ai (ai hL tt0) tt0) tt0) tt0)) (ai (ai (ai (ai (ai hL tt0) tt0) tt0) tt0) tt0)) (ai (ai (ai (ai (ai (ai hL tt0) tt0) tt0) tt0) tt0) tt0)) (ai (ai (ai (ai (ai (ai (ai hL tt0) tt0) (ai (ai (ai hL tt0) tt0) tt0)) (ai (ai (ai (ai hL tt0) tt0) tt0) tt0)) (ai (ai (ai (ai (ai hL tt0) tt0) tt0) tt0) tt0)) (ai (ai (ai (ai (ai (ai hL tt0) tt0) (ai (ai (ai hL tt0) tt0) tt0)) (ai (ai (ai (ai hL tt0) tt0) tt0) tt0)) (ai (ai (ai (ai (ai hL tt0) tt0) (ai (ai (ai hL tt0) tt0) tt0)) (ai (ai (ai (ai hL tt0) tt0) tt0) tt0)) tt0)) tt0)) tt0))
def qy : LU0 := [67, 72, 75, 49]
def Fe (N : Nat) (sb : LU0) (e : Int) : LState := { n := 42, sl := [(2, .p 0 0), (4, .p 23 0), (6, .p 118 0), (17, vi0 (N : Int)), (18, vi0 0)], hp := [(0, .own zk 54), (23, .own [.c (.string (ofL sb)), ci0 e] 85), (118, .own zk 54)] }
theorem Fq (N : Nat) (sb : LU0) (e : Int) : qA (Fe N sb e).aa (gkZ N sb e) [(106, 118)] := by
 have e : qA (Fe N sb e).aa (gkZ N sb e) [(106, 118)] = (((true = true /\ 0 = 0) /\ (true = true /\ 0 = 0) /\ (true = true /\ 0 = 0) /\ (Value.int .i64 (N : Int)) = (Value.int .i64 (N : Int)) /\ (Value.int .i64 0) = (Value.int .i64 0) /\ True) /\ ((54 = 54 /\ flat zk = flat zk) /\ (85 = 85 /\ flat [.c (.string (ofL sb)), ci0 e] = flat [.c (.string (ofL sb)), ci0 e]) /\ (54 = 54 /\ flat zk = flat zk) /\ True)) := by kernel_rfl
 rw [e]
 exact ⟨⟨rr0, rr0, rr0, rfl, rfl, tt0⟩, rr0, rr0, rr0, tt0⟩
abbrev vM (l : LU0) : List XV := [.t (.v (.string (ofL l)))]
def PE : Nat × Ora := (87, lpO { kd := 5, I := Ic [] 80, ex := .normal, E := gkY 80, fr := 94 })
theorem tP {a : List XV} {r : AV} {b : Prop} (o : LO0) (hb : b) (h : fnA prog (pC _) [qD, q8] 3 (oL o) f10 a = some (r, b) := by kernel_rfl) (hv : ∃ v, r.val? = some v := by exact ⟨_, rfl⟩) : Gives prog 10 a r := pz (P := prog) (X := pC _) (env := [qD, q8]) ⟨qf, qo, tt0⟩ func10 3 (oL o) h hv hb
theorem acI (l : LU0) (hn : l.length < 4) : Gives prog 10 (vM l) (.tp [.ag zk, vi0 80]) :=
 tP [(9, wT), PE] (ai (show some (Ic [] 80) = some (Ic [] 80) from rfl) (ai (zD [] 80) (ai (show decide ((((ofL l).size : Nat) : Int) < 4) = true from decide_eq_true (by show  ((l.length : Nat) : Int) < 4; omega)) tt0)))
def S8 {l : LU0} (hn : 4 <= l.length) := PLift.up (show (0 : Int) <= 4 /\ (4 : Int) <= (ofL l).size from ⟨by decide, by show (4 : Int) <= ((l).length : Nat); omega⟩)
def TB {l : LU0} (hn : 4 <= l.length) := PLift.up (ai (S8 hn).down (ai (show decide ((((ofL l).size : Nat) : Int) < 4) = false from decide_eq_false (by show ¬ ((l.length : Nat) : Int) < 4; omega)) tt0))
theorem ab7 (l : LU0) (hn : 4 <= l.length) (hm : l.take 4 ≠ qy) : Gives prog 10 (vM l) (.tp [.ag zk, vi0 80]) :=
 tP [(9, wF), (14, rO 5 0), (16, wT), PE] (ai (show some (Ic [] 80) = some (Ic [] 80) from rfl) (ai (zD [] 80) (ai (show (!((ofL (l.take 4)).toList == (ofL qy).toList)) = true from BM hm)
   (TB hn).down)))
def EE {l : LU0} (hm : l.take 4 = qy) := PLift.up (show (!((ofL (l.take 4)).toList == (ofL qy).toList)) = false from by rw [hm]; simp)
def Tw {l : LU0} (hn : 4 <= l.length) (hm : l.take 4 = qy) := PLift.up (ai (S8 hn).down (ai (EE hm).down
   (TB hn).down))
theorem acC (l : LU0) (hn : 4 <= l.length) (hm : l.take 4 = qy) (h4 : (l.drop 4).length < 4) : Gives prog 10 (vM l) (.tp [.ag zk, vi0 3]) :=
 tP [(9, wF), (14, rO 5 0), (16, wF), (21, rO 5 0), (40, wT), (65, wT), (95, lpO { kd := 5, I := gkX (l.drop 4) 3, ex := .normal, E := gkY 3, fr := 102 })] (ai (show some (gkX (l.drop 4) 3) = some (gkX (l.drop 4) 3) from rfl) (ai (rQ (l.drop 4) 3) (ai (show ((((ofL (l.drop 4)).size : Nat) : Int) != 96) = true from by
    have h1 : (((l.drop 4).length : Nat) : Int) ≠ 96 := by omega
    exact bne_iff_ne.2 h1) (ai (show decide ((((ofL (l.drop 4)).size : Nat) : Int) < 4) = true from decide_eq_true (by show (((l.drop 4).length : Nat) : Int) < 4; omega))
   (Tw hn hm).down))))
abbrev As (l : LU0) := zs (pA (l.drop 4) 0)
abbrev AF (l : LU0) := zh (pA (l.drop 4) 1)
abbrev Bp (l : LU0) := Cz (pA (l.drop 4) 2)
def Qs {l : LU0} {N : Nat} (hNe : c4 (l.drop 4) = N) (hn : 4 <= l.length) (hm : l.take 4 = qy) (h4 : 4 <= (l.drop 4).length) := PLift.up (ai (cs4 h4) (ai (uM hNe) (ai (cw (l.drop 4) 3) (ai (cid 3 h4 (by decide)) (ai (uH (l.drop 4)) (ai (Bp l) (ai (cw (l.drop 4) 2) (ai (cid 2 h4 (by decide)) (ai (uF (l.drop 4)) (ai (AF l) (ai (cw (l.drop 4) 1) (ai (cid 1 h4 (by decide)) (ai (As l) (ai (cw (l.drop 4) 0) (ai (cid 0 h4 (by decide)) (ai (clt h4)
   (Tw hn hm).down))))))))))))))))
def V5 (l : LU0) : Nat × Ora := (53, tn (cn (l.drop 4) 0 * 16777216))
def UC (l : LU0) : Nat × Ora := (60, tn (cn (l.drop 4) 1 * 65536))
def Ux (l : LU0) : Nat × Ora := (68, tn (cn (l.drop 4) 2 * 256))
def VD (l : LU0) : Nat × Ora := (74, rO 1 (cn (l.drop 4) 3))
def Uq (l : LU0) : Nat × Ora := (66, rO 1 (cn (l.drop 4) 2))
def V8 (l : LU0) : Nat × Ora := (58, rO 1 (cn (l.drop 4) 1))
def V2 (l : LU0) : Nat × Ora := (51, rO 1 (cn (l.drop 4) 0))
def Uz (l : LU0) : Nat × Ora := (75, tn (cn (l.drop 4) 3))
def V4 (l : LU0) : Nat × Ora := (67, tn (cn (l.drop 4) 2))
def WG (l : LU0) : Nat × Ora := (59, tn (cn (l.drop 4) 1))
def U0 (l : LU0) : Nat × Ora := (52, tn (cn (l.drop 4) 0))
def V6 (l : LU0) : Nat × Ora := (69, tn (co2 (l.drop 4)))
def Uy (l : LU0) : Nat × Ora := (61, tn (co1 (l.drop 4)))
def vC (l : LU0) (N : Nat) : LO0 := [(9, wF), (14, rO 5 0), (16, wF), (21, rO 5 0), (40, wF), (V2 l), (U0 l), (V5 l), (V8 l), (WG l), (UC l), (Uy l), (Uq l), (V4 l), (Ux l), (V6 l), (VD l), (Uz l), (76, tn (N)), (83, rO 5 0)]
theorem aat (l : LU0) (N : Nat) (hNe : c4 (l.drop 4) = N) (hn : 4 <= l.length) (hm : l.take 4 = qy) (h4 : 4 <= (l.drop 4).length) (hN : 4096 < N) (hx : ((l.drop 4).drop 4).length = 96) : Gives prog 10 (vM l) (.tp [.ag zk, vi0 2]) :=
 tP ((vC l N) ++ [(89, wT), (108, wF), (131, lpO { kd := 5, I := gkX ((l.drop 4).drop 4) 2, ex := .normal, E := gkY 2, fr := 138 })]) (ai (show some (gkX ((l.drop 4).drop 4) 2) = some (gkX ((l.drop 4).drop 4) 2) from rfl) (ai (rQ ((l.drop 4).drop 4) 2) (ai (show ((((ofL ((l.drop 4).drop 4)).size : Nat) : Int) != 96) = false from by
    have h1 : ((((l.drop 4).drop 4).length : Nat) : Int) = 96 := by omega
    exact vt h1) (ai (show decide (((N : Nat) : Int) > 4096) = true from decide_eq_true (by omega))
   (Qs hNe hn hm h4).down))))
theorem Xd (l : LU0) (N : Nat) (hNe : c4 (l.drop 4) = N) (hn : 4 <= l.length) (hm : l.take 4 = qy) (h4 : 4 <= (l.drop 4).length) (hN : 4096 < N) (hx : ((l.drop 4).drop 4).length ≠ 96) : Gives prog 10 (vM l) (.tp [.ag zk, vi0 2]) :=
 tP ((vC l N) ++ [(89, wT), (108, wT), (138, lpO { kd := 5, I := gkX ((l.drop 4).drop 4) 2, ex := .normal, E := gkY 2, fr := 145 })]) (ai (show some (gkX ((l.drop 4).drop 4) 2) = some (gkX ((l.drop 4).drop 4) 2) from rfl) (ai (rQ ((l.drop 4).drop 4) 2) (ai (show ((((ofL ((l.drop 4).drop 4)).size : Nat) : Int) != 96) = true from by
    have h1 : ((((l.drop 4).drop 4).length : Nat) : Int) ≠ 96 := by omega
    exact bne_iff_ne.2 h1) (ai (show decide (((N : Nat) : Int) > 4096) = true from decide_eq_true (by omega))
   (Qs hNe hn hm h4).down))))
def Mz {l : LU0} {N : Nat} (hNe : c4 (l.drop 4) = N) (hn : 4 <= l.length) (hm : l.take 4 = qy) (h4 : 4 <= (l.drop 4).length) (hN : N <= 4096) := PLift.up (ai (show IntKind.i64.wrap (((N * 48 : Nat) : Int) + 96) = ((N * 48 + 96 : Nat) : Int) from by
    rw [show ((N * 48 : Nat) : Int) + 96 = ((N * 48 + 96 : Nat) : Int) by omega]
    exact py (by omega)) (ai (show IntKind.i64.wrap (((N : Nat) : Int) * 48) = ((N * 48 : Nat) : Int) from by
    rw [show ((N : Nat) : Int) * 48 = ((N * 48 : Nat) : Int) by omega]
    exact py (by omega)) (ai (show IntKind.i64.wrap ((N : Nat) : Int) = ((N : Nat) : Int) from py (by omega)) (ai (show decide (((N : Nat) : Int) > 4096) = false from decide_eq_false (by omega))
   (Qs hNe hn hm h4).down))))
def U5 (N : Nat) : Nat × Ora := (97, { ch := 1, hi := fun _ => N * 48 + 96 })
def Uh (N : Nat) : Nat × Ora := (96, { ch := 1, hi := fun _ => N * 48 })
def Up (N : Nat) : Nat × Ora := (92, { ch := 1, hi := fun _ => N })
def xU (N : Nat) : LO0 := [(89, wF), (Up N), (Uh N), (U5 N)]
theorem HM (l : LU0) (N : Nat) (hNe : c4 (l.drop 4) = N) (hn : 4 <= l.length) (hm : l.take 4 = qy) (h4 : 4 <= (l.drop 4).length) (hN : N <= 4096) (hx : ((l.drop 4).drop 4).length ≠ 48 * N + 96) (hz : N = 0) : Gives prog 10 (vM l) (.tp [.ag zk, vi0 3]) :=
 tP ((vC l N) ++ (xU N) ++ [(105, wT), (121, lpO { I := Fe N ((l.drop 4).drop 4) 3, ex := .exit 0, E := VP ((l.drop 4).drop 4) 3, fr := 122 }), (140, lpO { kd := 5, I := gkX ((l.drop 4).drop 4) 3, ex := .normal, E := gkY 3, fr := 147 })]) (ai (show some (gkX ((l.drop 4).drop 4) 3) = some (gkX ((l.drop 4).drop 4) 3) from rfl) (ai (rQ ((l.drop 4).drop 4) 3) (ai (show some (Fe N ((l.drop 4).drop 4) 3) = some (Fe N ((l.drop 4).drop 4) 3) from rfl) (ai ((s8 (Dg N hz ((l.drop 4).drop 4) 3)).pre [(106, 118)] (by kernel_rfl) (Fq N ((l.drop 4).drop 4) 3)) (ai (show ((((ofL ((l.drop 4).drop 4)).size : Nat) : Int) != ((N * 48 + 96 : Nat) : Int)) = true from by
    have h1 : ((((l.drop 4).drop 4).length : Nat) : Int) ≠ ((N * 48 + 96 : Nat) : Int) := by omega
    exact bne_iff_ne.2 h1)
   (Mz hNe hn hm h4 hN).down)))))
abbrev wl (l : LU0) (N : Nat) := nst 48 g1E N (3, ((l.drop 4).drop 4))
def LE (l : LU0) (N : Nat) := PLift.up (show ((nst 48 g1E N (3, ((l.drop 4).drop 4))).1 != 0) = true from by rw [si (show ((3, ((l.drop 4).drop 4)) : Int × LU0).1 ≠ 0 from (by show (3 : Int) ≠ 0; decide))]; rfl)
theorem Hs (l : LU0) (N : Nat) (hNe : c4 (l.drop 4) = N) (hn : 4 <= l.length) (hm : l.take 4 = qy) (h4 : 4 <= (l.drop 4).length) (hN : N <= 4096) (hx : ((l.drop 4).drop 4).length ≠ 48 * N + 96) (hz : 0 < N) : Gives prog 10 (vM l) (.tp [.ag zk, vi0 (nst 48 g1E N (3, ((l.drop 4).drop 4))).1]) :=
 tP ((vC l N) ++ (xU N) ++ [(105, wT), (121, lpO { I := Fe N ((l.drop 4).drop 4) 3, ex := .exit 0, E := gkE (wE (xo (3, ((l.drop 4).drop 4)) N)) N (wl l N).2 (wl l N).1, fr := 122 }), (130, wT), (139, wT), (140, lpO { kd := 5, I := gkX (wl l N).2 (wl l N).1, ex := .normal, E := gkY (wl l N).1, fr := 147 })]) (ai (show some (gkX (wl l N).2 (wl l N).1) = some (gkX (wl l N).2 (wl l N).1) from rfl) (ai (rQ (wl l N).2 (wl l N).1) (ai (LE l N).down (ai (LE l N).down (ai (show some (Fe N ((l.drop 4).drop 4) 3) = some (Fe N ((l.drop 4).drop 4) 3) from rfl) (ai ((Dl N hz (by omega) (3, ((l.drop 4).drop 4)) (fun h => by exact absurd (show (3 : Int) = 0 from h) (by decide))).pre [(106, 118)] (by kernel_rfl) (Fq N ((l.drop 4).drop 4) 3)) (ai (show ((((ofL ((l.drop 4).drop 4)).size : Nat) : Int) != ((N * 48 + 96 : Nat) : Int)) = true from by
    have h1 : ((((l.drop 4).drop 4).length : Nat) : Int) ≠ ((N * 48 + 96 : Nat) : Int) := by omega
    exact bne_iff_ne.2 h1)
   (Mz hNe hn hm h4 hN).down)))))))
def Fc (l : LU0) (N : Nat) := PLift.up (show some (gkZ N ((l.drop 4).drop 4) 0) = some (gkZ N ((l.drop 4).drop 4) 0) from rfl)
abbrev Bu (l : LU0) := g2E (((l.drop 4).drop 4).take 96)
def MF (l : LU0) (N : Nat) : Nat × Ora := (109, lpO { I := gkZ N ((l.drop 4).drop 4) 0, ex := .exit 0, E := VP ((l.drop 4).drop 4) 0, fr := 110 })
theorem Du (l : LU0) (N : Nat) (hNe : c4 (l.drop 4) = N) (hn : 4 <= l.length) (hm : l.take 4 = qy) (h4 : 4 <= (l.drop 4).length) (hN : N <= 4096) (hx : ((l.drop 4).drop 4).length = 48 * N + 96) (hz : N = 0) (h : g2E (((l.drop 4).drop 4).take 96) ≠ 0) : Gives prog 10 (vM l) (.tp [.ag zk, vi0 (g2E (((l.drop 4).drop 4).take 96))]) := by
 have hR : 96 <= ((l.drop 4).drop 4).length := by omega
 exact tP ((vC l N) ++ (xU N) ++ [(105, wF), (MF l N), (125, rO 5 0), (139, rO 5 0), (157, wT), (166, wT), (167, lpO { kd := 5, I := gkX (((l.drop 4).drop 4).drop 96) (Bu l), ex := .normal, E := gkY (Bu l), fr := 174 })]) (ai (show some (gkX (((l.drop 4).drop 4).drop 96) (Bu l)) = some (gkX (((l.drop 4).drop 4).drop 96) (Bu l)) from rfl) (ai (rQ (((l.drop 4).drop 4).drop 96) (Bu l)) (ai (show (g2E (((l.drop 4).drop 4).take 96) != 0) = true from by simpa using h) (ai (show (g2E (((l.drop 4).drop 4).take 96) != 0) = true from by simpa using h) (ai (show (0 : Int) <= 96 /\ (96 : Int) <= (ofL ((l.drop 4).drop 4)).size from ⟨by decide, by show (96 : Int) <= (((l.drop 4).drop 4).length : Nat); omega⟩) (ai (show (0 : Int) <= 96 /\ (96 : Int) <= (ofL ((l.drop 4).drop 4)).size from ⟨by decide, by show (96 : Int) <= (((l.drop 4).drop 4).length : Nat); omega⟩) (ai (Fc l N).down (ai (s8 (Dg N hz ((l.drop 4).drop 4) 0)) (ai (show ((((ofL ((l.drop 4).drop 4)).size : Nat) : Int) != ((N * 48 + 96 : Nat) : Int)) = false from by
    have h1 : ((((l.drop 4).drop 4).length : Nat) : Int) = ((N * 48 + 96 : Nat) : Int) := by omega
    exact vt h1) (ai (show IntKind.i64.wrap (((N * 48 : Nat) : Int) + 96) = ((N * 48 + 96 : Nat) : Int) from by
    rw [show ((N * 48 : Nat) : Int) + 96 = ((N * 48 + 96 : Nat) : Int) by omega]
    exact py (by omega)) (ai (show IntKind.i64.wrap (((N : Nat) : Int) * 48) = ((N * 48 : Nat) : Int) from by
    rw [show ((N : Nat) : Int) * 48 = ((N * 48 : Nat) : Int) by omega]
    exact py (by omega)) (ai (show IntKind.i64.wrap ((N : Nat) : Int) = ((N : Nat) : Int) from py (by omega)) (ai (show decide (((N : Nat) : Int) > 4096) = false from decide_eq_false (by omega)) (ai (cs4 h4) (ai (uM hNe) (ai (cw (l.drop 4) 3) (ai (cid 3 h4 (by decide)) (ai (uH (l.drop 4)) (ai (Bp l) (ai (cw (l.drop 4) 2) (ai (cid 2 h4 (by decide)) (ai (uF (l.drop 4)) (ai (AF l) (ai (cw (l.drop 4) 1) (ai (cid 1 h4 (by decide)) (ai (As l) (ai (cw (l.drop 4) 0) (ai (cid 0 h4 (by decide)) (ai (clt h4) (ai (show (0 : Int) <= 4 /\ (4 : Int) <= (ofL l).size from ⟨by decide, by show (4 : Int) <= ((l).length : Nat); omega⟩) (ai (EE hm).down (ai (show (0 : Int) <= 4 /\ (4 : Int) <= (ofL l).size from ⟨by decide, by show (4 : Int) <= ((l).length : Nat); omega⟩) (ai (show decide ((((ofL l).size : Nat) : Int) < 4) = false from decide_eq_false (by show ¬ ((l.length : Nat) : Int) < 4; omega)) tt0)))))))))))))))))))))))))))))))))
theorem J3 (l : LU0) (N : Nat) (hNe : c4 (l.drop 4) = N) (hn : 4 <= l.length) (hm : l.take 4 = qy) (h4 : 4 <= (l.drop 4).length) (hN : N <= 4096) (hx : ((l.drop 4).drop 4).length = 48 * N + 96) (hz : N = 0) (h : g2E (((l.drop 4).drop 4).take 96) = 0) : Gives prog 10 (vM l) (.tp [.ag (.c (.slice none 0 0) :: pt2 (g2V (((l.drop 4).drop 4).take 96))), vi0 0]) := by
 have hR : 96 <= ((l.drop 4).drop 4).length := by omega
 exact tP ((vC l N) ++ (xU N) ++ [(105, wF), (MF l N), (125, rO 5 0), (139, rO 5 0), (157, wF), (166, wF)]) (ai (show (g2E (((l.drop 4).drop 4).take 96) != 0) = false from by rw [h]; rfl) (ai (show (g2E (((l.drop 4).drop 4).take 96) != 0) = false from by rw [h]; rfl) (ai (show (0 : Int) <= 96 /\ (96 : Int) <= (ofL ((l.drop 4).drop 4)).size from ⟨by decide, by show (96 : Int) <= (((l.drop 4).drop 4).length : Nat); omega⟩) (ai (show (0 : Int) <= 96 /\ (96 : Int) <= (ofL ((l.drop 4).drop 4)).size from ⟨by decide, by show (96 : Int) <= (((l.drop 4).drop 4).length : Nat); omega⟩) (ai (Fc l N).down (ai (s8 (Dg N hz ((l.drop 4).drop 4) 0)) (ai (show ((((ofL ((l.drop 4).drop 4)).size : Nat) : Int) != ((N * 48 + 96 : Nat) : Int)) = false from by
    have h1 : ((((l.drop 4).drop 4).length : Nat) : Int) = ((N * 48 + 96 : Nat) : Int) := by omega
    exact vt h1) (ai (show IntKind.i64.wrap (((N * 48 : Nat) : Int) + 96) = ((N * 48 + 96 : Nat) : Int) from by
    rw [show ((N * 48 : Nat) : Int) + 96 = ((N * 48 + 96 : Nat) : Int) by omega]
    exact py (by omega)) (ai (show IntKind.i64.wrap (((N : Nat) : Int) * 48) = ((N * 48 : Nat) : Int) from by
    rw [show ((N : Nat) : Int) * 48 = ((N * 48 : Nat) : Int) by omega]
    exact py (by omega)) (ai (show IntKind.i64.wrap ((N : Nat) : Int) = ((N : Nat) : Int) from py (by omega)) (ai (show decide (((N : Nat) : Int) > 4096) = false from decide_eq_false (by omega)) (ai (cs4 h4) (ai (uM hNe) (ai (cw (l.drop 4) 3) (ai (cid 3 h4 (by decide)) (ai (uH (l.drop 4)) (ai (Bp l) (ai (cw (l.drop 4) 2) (ai (cid 2 h4 (by decide)) (ai (uF (l.drop 4)) (ai (AF l) (ai (cw (l.drop 4) 1) (ai (cid 1 h4 (by decide)) (ai (As l) (ai (cw (l.drop 4) 0) (ai (cid 0 h4 (by decide)) (ai (clt h4) (ai (show (0 : Int) <= 4 /\ (4 : Int) <= (ofL l).size from ⟨by decide, by show (4 : Int) <= ((l).length : Nat); omega⟩) (ai (EE hm).down (ai (show (0 : Int) <= 4 /\ (4 : Int) <= (ofL l).size from ⟨by decide, by show (4 : Int) <= ((l).length : Nat); omega⟩) (ai (show decide ((((ofL l).size : Nat) : Int) < 4) = false from decide_eq_false (by show ¬ ((l.length : Nat) : Int) < 4; omega)) tt0)))))))))))))))))))))))))))))))
abbrev wh (l : LU0) (N : Nat) := nst 48 g1E N (0, ((l.drop 4).drop 4))
theorem Iw (l : LU0) (N : Nat) (hNe : c4 (l.drop 4) = N) (hn : 4 <= l.length) (hm : l.take 4 = qy) (h4 : 4 <= (l.drop 4).length) (hN : N <= 4096) (hx : ((l.drop 4).drop 4).length = 48 * N + 96) (hz : 0 < N) (h : (nst 48 g1E N (0, ((l.drop 4).drop 4))).1 ≠ 0) : Gives prog 10 (vM l) (.tp [.ag zk, vi0 (nst 48 g1E N (0, ((l.drop 4).drop 4))).1]) :=
 tP ((vC l N) ++ (xU N) ++ [(105, wF), (109, lpO { I := gkZ N ((l.drop 4).drop 4) 0, ex := .exit 0, E := gkE (wE (xo (0, ((l.drop 4).drop 4)) N)) N (wh l N).2 (wh l N).1, fr := 110 }), (118, wT), (127, wT), (128, lpO { kd := 5, I := gkX (wh l N).2 (wh l N).1, ex := .normal, E := gkY (wh l N).1, fr := 135 })]) (ai (show some (gkX (wh l N).2 (wh l N).1) = some (gkX (wh l N).2 (wh l N).1) from rfl) (ai (rQ (wh l N).2 (wh l N).1) (ai (show ((nst 48 g1E N (0, ((l.drop 4).drop 4))).1 != 0) = true from by simpa using h) (ai (show ((nst 48 g1E N (0, ((l.drop 4).drop 4))).1 != 0) = true from by simpa using h) (ai (Fc l N).down (ai (Dl N hz (by omega) (0, ((l.drop 4).drop 4)) (fun _ => by show 48 * N <= ((l.drop 4).drop 4).length; omega)) (ai (show ((((ofL ((l.drop 4).drop 4)).size : Nat) : Int) != ((N * 48 + 96 : Nat) : Int)) = false from by
    have h1 : ((((l.drop 4).drop 4).length : Nat) : Int) = ((N * 48 + 96 : Nat) : Int) := by omega
    exact vt h1)
   (Mz hNe hn hm h4 hN).down)))))))
def NS (l : LU0) (N : Nat) (R : LU0) : Nat × Ora := (109, lpO { I := gkZ N ((l.drop 4).drop 4) 0, ex := .exit 0, E := gkE (wE (xo (0, ((l.drop 4).drop 4)) N)) N R 0, fr := 110 })
theorem DQ (l : LU0) (N : Nat) (hNe : c4 (l.drop 4) = N) (hn : 4 <= l.length) (hm : l.take 4 = qy) (h4 : 4 <= (l.drop 4).length) (hN : N <= 4096) (hx : ((l.drop 4).drop 4).length = 48 * N + 96) (hz : 0 < N) (R : LU0) (h8 : (nst 48 g1E N (0, ((l.drop 4).drop 4))) = (0, R)) (h : g2E (R.take 96) ≠ 0) : Gives prog 10 (vM l) (.tp [.ag zk, vi0 (g2E (R.take 96))]) := by
 have hR : 96 <= R.length := by obtain ⟨_, h6, _⟩ := p7 N (0, ((l.drop 4).drop 4)) (by rw [h8]); rw [h8] at h6; rw [show R = ((l.drop 4).drop 4).drop (48 * N) from congrArg Prod.snd h6, List.length_drop]; omega
 exact tP ((vC l N) ++ (xU N) ++ [(105, wF), (NS l N R), (125, rO 5 0), (139, rO 5 0), (157, wT), (166, wT), (167, lpO { kd := 5, I := gkX (R.drop 96) (g2E (R.take 96)), ex := .normal, E := gkY (g2E (R.take 96)), fr := 174 })]) (ai (show some (gkX (R.drop 96) (g2E (R.take 96))) = some (gkX (R.drop 96) (g2E (R.take 96))) from rfl) (ai (rQ (R.drop 96) (g2E (R.take 96))) (ai (show (g2E (R.take 96) != 0) = true from by simpa using h) (ai (show (g2E (R.take 96) != 0) = true from by simpa using h) (ai (show (0 : Int) <= 96 /\ (96 : Int) <= (ofL R).size from ⟨by decide, by show (96 : Int) <= (R.length : Nat); omega⟩) (ai (show (0 : Int) <= 96 /\ (96 : Int) <= (ofL R).size from ⟨by decide, by show (96 : Int) <= (R.length : Nat); omega⟩) (ai (Fc l N).down (ai ((by have hh := Dl N hz (by omega) (0, ((l.drop 4).drop 4)) (fun _ => by show 48 * N <= ((l.drop 4).drop 4).length; omega); rw [h8] at hh; exact hh)) (ai (show ((((ofL ((l.drop 4).drop 4)).size : Nat) : Int) != ((N * 48 + 96 : Nat) : Int)) = false from by
    have h1 : ((((l.drop 4).drop 4).length : Nat) : Int) = ((N * 48 + 96 : Nat) : Int) := by omega
    exact vt h1) (ai (show IntKind.i64.wrap (((N * 48 : Nat) : Int) + 96) = ((N * 48 + 96 : Nat) : Int) from by
    rw [show ((N * 48 : Nat) : Int) + 96 = ((N * 48 + 96 : Nat) : Int) by omega]
    exact py (by omega)) (ai (show IntKind.i64.wrap (((N : Nat) : Int) * 48) = ((N * 48 : Nat) : Int) from by
    rw [show ((N : Nat) : Int) * 48 = ((N * 48 : Nat) : Int) by omega]
    exact py (by omega)) (ai (show IntKind.i64.wrap ((N : Nat) : Int) = ((N : Nat) : Int) from py (by omega)) (ai (show decide (((N : Nat) : Int) > 4096) = false from decide_eq_false (by omega)) (ai (cs4 h4) (ai (uM hNe) (ai (cw (l.drop 4) 3) (ai (cid 3 h4 (by decide)) (ai (uH (l.drop 4)) (ai (Bp l) (ai (cw (l.drop 4) 2) (ai (cid 2 h4 (by decide)) (ai (uF (l.drop 4)) (ai (AF l) (ai (cw (l.drop 4) 1) (ai (cid 1 h4 (by decide)) (ai (As l) (ai (cw (l.drop 4) 0) (ai (cid 0 h4 (by decide)) (ai (clt h4) (ai (show (0 : Int) <= 4 /\ (4 : Int) <= (ofL l).size from ⟨by decide, by show (4 : Int) <= ((l).length : Nat); omega⟩) (ai (EE hm).down (ai (show (0 : Int) <= 4 /\ (4 : Int) <= (ofL l).size from ⟨by decide, by show (4 : Int) <= ((l).length : Nat); omega⟩) (ai (show decide ((((ofL l).size : Nat) : Int) < 4) = false from decide_eq_false (by show ¬ ((l.length : Nat) : Int) < 4; omega)) tt0)))))))))))))))))))))))))))))))))
theorem KS (l : LU0) (N : Nat) (hNe : c4 (l.drop 4) = N) (hn : 4 <= l.length) (hm : l.take 4 = qy) (h4 : 4 <= (l.drop 4).length) (hN : N <= 4096) (hx : ((l.drop 4).drop 4).length = 48 * N + 96) (hz : 0 < N) (R : LU0) (h8 : (nst 48 g1E N (0, ((l.drop 4).drop 4))) = (0, R)) (h : g2E (R.take 96) = 0) : wH prog 10 (vM l) (fun k => .tp [.ag (.sx k N :: pt2 (g2V (R.take 96))), vi0 0]) (.gr [.l (wE (xo (0, ((l.drop 4).drop 4)) N))] 26 13) := by
 have hR : 96 <= R.length := by obtain ⟨_, h6, _⟩ := p7 N (0, ((l.drop 4).drop 4)) (by rw [h8]); rw [h8] at h6; rw [show R = ((l.drop 4).drop 4).drop (48 * N) from congrArg Prod.snd h6, List.length_drop]; omega
 exact zp (P := prog) (X := pC _) (env := [qD, q8]) ⟨qf, qo, tt0⟩ func10 (fun args w => Go.Proofs.enters_of (P := prog) func10 (by kernel_rfl) rfl args w) 3 (oL ((vC l N) ++ (xU N) ++ [(105, wF), (NS l N R), (125, rO 5 0), (139, rO 5 0), (157, wF), (166, wF)])) (r0 := .tp [.ag (.sx 24 N :: pt2 (g2V (R.take 96))), vi0 0]) 24 (by kernel_rfl) rfl (ai (show (g2E (R.take 96) != 0) = false from by rw [h]; rfl) (ai (show (g2E (R.take 96) != 0) = false from by rw [h]; rfl) (ai (show (0 : Int) <= 96 /\ (96 : Int) <= (ofL R).size from ⟨by decide, by show (96 : Int) <= (R.length : Nat); omega⟩) (ai (show (0 : Int) <= 96 /\ (96 : Int) <= (ofL R).size from ⟨by decide, by show (96 : Int) <= (R.length : Nat); omega⟩) (ai (Fc l N).down (ai ((by have hh := Dl N hz (by omega) (0, ((l.drop 4).drop 4)) (fun _ => by show 48 * N <= ((l.drop 4).drop 4).length; omega); rw [h8] at hh; exact hh)) (ai (show ((((ofL ((l.drop 4).drop 4)).size : Nat) : Int) != ((N * 48 + 96 : Nat) : Int)) = false from by
    have h1 : ((((l.drop 4).drop 4).length : Nat) : Int) = ((N * 48 + 96 : Nat) : Int) := by omega
    exact vt h1) (ai (show IntKind.i64.wrap (((N * 48 : Nat) : Int) + 96) = ((N * 48 + 96 : Nat) : Int) from by
    rw [show ((N * 48 : Nat) : Int) + 96 = ((N * 48 + 96 : Nat) : Int) by omega]
    exact py (by omega)) (ai (show IntKind.i64.wrap (((N : Nat) : Int) * 48) = ((N * 48 : Nat) : Int) from by
    rw [show ((N : Nat) : Int) * 48 = ((N * 48 : Nat) : Int) by omega]
    exact py (by omega)) (ai (show IntKind.i64.wrap ((N : Nat) : Int) = ((N : Nat) : Int) from py (by omega)) (ai (show decide (((N : Nat) : Int) > 4096) = false from decide_eq_false (by omega)) (ai (cs4 h4) (ai (uM hNe) (ai (cw (l.drop 4) 3) (ai (cid 3 h4 (by decide)) (ai (uH (l.drop 4)) (ai (Bp l) (ai (cw (l.drop 4) 2) (ai (cid 2 h4 (by decide)) (ai (uF (l.drop 4)) (ai (AF l) (ai (cw (l.drop 4) 1) (ai (cid 1 h4 (by decide)) (ai (As l) (ai (cw (l.drop 4) 0) (ai (cid 0 h4 (by decide)) (ai (clt h4) (ai (show (0 : Int) <= 4 /\ (4 : Int) <= (ofL l).size from ⟨by decide, by show (4 : Int) <= ((l).length : Nat); omega⟩) (ai (EE hm).down (ai (show (0 : Int) <= 4 /\ (4 : Int) <= (ofL l).size from ⟨by decide, by show (4 : Int) <= ((l).length : Nat); omega⟩) (ai (show decide ((((ofL l).size : Nat) : Int) < 4) = false from decide_eq_false (by show ¬ ((l.length : Nat) : Int) < 4; omega)) tt0))))))))))))))))))))))))))))))) _ (Nb rfl)
end Go.Proofs.YtokjhbmmdmeafaaGreat
set_option linter.unusedSimpArgs false
set_option linter.unusedVariables false
namespace Go.Proofs.YtokjhbmmdmeafaaGreat
open Go.Ev Go.RowKit
open Tryz
theorem IW {sz : Nat} {E : LU0 -> Int} {st : Int × LU0} (h : st.1 = 0) : (rst sz E st).1 = E (st.2.take sz) := congrArg Prod.fst (if_pos h)
theorem Js {st : Int × LU0} (h : st.1 = 0) : st = (0, st.2) := Prod.ext h rfl
def z4 (l : LU0) (N : Nat) : Int :=
 if l.take 4 = qy then (if ((l.drop 4)).length < 4 then 3 else if 4096 < N then 2 else
  if (((l.drop 4).drop 4)).length = 48 * N + 96 then (rst 96 g2E (nst 48 g1E (N) (0, ((l.drop 4).drop 4)))).1 else 3) else 80
theorem K8 (l : LU0) (N : Nat) (hNe : c4 (l.drop 4) = N) : (z4 l N ≠ 0 /\ Gives prog 10 [.t (.v (.string (ofL l)))] (.tp [.ag zk, vi0 (z4 l N)])) ∨
  (z4 l N = 0 /\ l.take 4 = qy /\ 4 <= ((l.drop 4)).length /\ N <= 4096 /\ (((l.drop 4).drop 4)).length = 48 * N + 96 /\ nst 48 g1E (N) (0, ((l.drop 4).drop 4)) = (0, (nst 48 g1E (N) (0, ((l.drop 4).drop 4))).2) /\ g2E ((nst 48 g1E (N) (0, ((l.drop 4).drop 4))).2.take 96) = 0) := by
 by_cases hm : l.take 4 = qy
 ·have hn : 4 <= l.length := by
   have := congrArg List.length hm
   rw [List.length_take] at this
   have h5 : qy.length = 4 := rfl
   omega
  have e0 : z4 l N = _ := if_pos hm
  by_cases h4 : ((l.drop 4)).length < 4
  ·rw [e0.trans (if_pos h4)]
   exact .inl ⟨by decide, acC l hn hm h4⟩
  have e1 := e0.trans (if_neg h4)
  have h4 : 4 <= ((l.drop 4)).length := by omega
  by_cases hN : 4096 < N
  ·rw [e1.trans (if_pos hN)]
   refine .inl ⟨by decide, ?_⟩
   by_cases hx : (((l.drop 4).drop 4)).length = 96
   ·exact aat l N hNe hn hm h4 hN hx
   ·exact Xd l N hNe hn hm h4 hN hx
  have e2 := e1.trans (if_neg hN)
  have hN : N <= 4096 := by omega
  by_cases hx : (((l.drop 4).drop 4)).length = 48 * N + 96
  ·have e3 := e2.trans (if_pos hx)
   by_cases h8 : (nst 48 g1E (N) (0, ((l.drop 4).drop 4))).1 = 0
   ·have h9 : nst 48 g1E (N) (0, ((l.drop 4).drop 4)) = (0, (nst 48 g1E (N) (0, ((l.drop 4).drop 4))).2) := Js h8
    have e4 : z4 l N = g2E ((nst 48 g1E (N) (0, ((l.drop 4).drop 4))).2.take 96) := by
     exact e3.trans (IW h8)
    by_cases h : g2E ((nst 48 g1E (N) (0, ((l.drop 4).drop 4))).2.take 96) = 0
    ·exact .inr ⟨e4.trans h, hm, h4, hN, hx, h9, h⟩
    ·rw [e4]
     refine .inl ⟨h, ?_⟩
     rcases Nat.eq_zero_or_pos (N) with hz | hz
     ·skip
      have e9 : (nst 48 g1E (N) (0, ((l.drop 4).drop 4))).2 = ((l.drop 4).drop 4) := by rw [hz]; rfl
      rw [e9]
      exact Du l N hNe hn hm h4 hN hx hz (by rw [e9] at h; exact h)
     ·exact DQ l N hNe hn hm h4 hN hx hz _ h9 h
   ·have e4 := e3
    rw [vx h8] at e4
    rw [e4]
    refine .inl ⟨h8, ?_⟩
    rcases Nat.eq_zero_or_pos (N) with hz | hz
    ·exact absurd (by rw [hz]; rfl) h8
    ·exact Iw l N hNe hn hm h4 hN hx hz h8
  ·rw [e2.trans (if_neg hx)]
   refine .inl ⟨by decide, ?_⟩
   rcases Nat.eq_zero_or_pos (N) with hz | hz
   ·exact HM l N hNe hn hm h4 hN hx hz
   ·have e3 := Hs l N hNe hn hm h4 hN hx hz
    rw [si (show ((3, ((l.drop 4).drop 4)) : Int × LU0).1 ≠ 0 from (by show (3 : Int) ≠ 0; decide))] at e3
    exact e3
 ·have e : z4 l N = 80 := if_neg hm
  rw [e]
  refine .inl ⟨by decide, ?_⟩
  by_cases hn : l.length < 4
  ·exact acI l hn
  ·exact ab7 l (by omega) hm
def Ef (l : LU0) : Int := z4 l (c4 (l.drop 4))
theorem By (l : LU0) : (Ef l ≠ 0 /\ Gives prog 10 [.t (.v (.string (ofL l)))] (.tp [.ag zk, vi0 (Ef l)])) ∨
  (Ef l = 0 /\ l.take 4 = qy /\ 4 <= ((l.drop 4)).length /\ c4 (l.drop 4) <= 4096 /\ (((l.drop 4).drop 4)).length = 48 * c4 (l.drop 4) + 96 /\ nst 48 g1E (c4 (l.drop 4)) (0, ((l.drop 4).drop 4)) = (0, (nst 48 g1E (c4 (l.drop 4)) (0, ((l.drop 4).drop 4))).2) /\ g2E ((nst 48 g1E (c4 (l.drop 4)) (0, ((l.drop 4).drop 4))).2.take 96) = 0) :=
 K8 l _ rfl
end Go.Proofs.YtokjhbmmdmeafaaGreat
