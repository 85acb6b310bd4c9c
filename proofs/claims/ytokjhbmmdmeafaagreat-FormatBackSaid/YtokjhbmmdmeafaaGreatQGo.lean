/- Pruned: Go. -/
import Derived.Test.YtokjhbmmdmeafaaGreatQGm
set_option linter.unusedSimpArgs false
set_option linter.unusedVariables false
namespace Go.Proofs.YtokjhbmmdmeafaaGreat
open Go.Ev Go.RowKit
open Tryz
theorem QB {j len : Nat} {cs : List Ch} {x : Value} (hp : pureC cs = true) : ∀ (ρ ρ' : Names) k u v, ρ' j = some u -> ρ k = some u -> Rep ρ' (.tp [.ag (.sx j len :: cs), .v x]) v -> Rep ρ (.tp [.ag (.sx k len :: cs), .v x]) v := by
 intro ρ ρ' k u v h1 h2 h
 obtain ⟨e1, e2⟩ := qe ρ hp
 obtain ⟨e3, e4⟩ := qe ρ' hp
 simp only [Rep, Reps, flatR, Ch.cells, DefC, Ch.def_, Names.at, Names.room, h1, h2, e1, e3] at h ⊢
 obtain ⟨xs, ⟨y, r, rfl, hy, hr⟩, rfl⟩ := h
 exact ⟨_, ⟨y, r, rfl, ⟨⟨hy.1.1, e2⟩, hy.2⟩, hr⟩, rfl⟩
def Sn : LU0 := [67, 72, 75, 49]
def VO (l : LU0) (N : Nat) : LO0 := [(9, wF), (14, rO 5 0), (16, wF), (21, rO 5 0), (40, wF), (51, rO 1 (cn (l.drop 4) 0)), (52, tn (cn (l.drop 4) 0)), (53, tn (cn (l.drop 4) 0 * 16777216)), (58, rO 1 (cn (l.drop 4) 1)), (59, tn (cn (l.drop 4) 1)), (60, tn (cn (l.drop 4) 1 * 65536)), (61, tn (co1 (l.drop 4))), (66, rO 1 (cn (l.drop 4) 2)), (67, tn (cn (l.drop 4) 2)), (68, tn (cn (l.drop 4) 2 * 256)), (69, tn (co2 (l.drop 4))), (74, rO 1 (cn (l.drop 4) 3)), (75, tn (cn (l.drop 4) 3)), (76, tn (N)), (83, rO 5 0), (89, wF), (92, { ch := 1, hi := fun _ => N }), (96, { ch := 1, hi := fun _ => N * 48 }), (97, { ch := 1, hi := fun _ => N * 48 + 96 }), (105, wF)]
theorem NL (l : LU0) (N : Nat) (hNe : c4 (l.drop 4) = N) (hn : 4 <= l.length) (hm : l.take 4 = Sn) (h4 : 4 <= (l.drop 4).length) (hN : N <= 4096) (hx : ((l.drop 4).drop 4).length = 48 * N + 96) (hz : N = 0) (h : g2E (((l.drop 4).drop 4).take 96) = 0) : Gives prog 10 [.t (.v (.string (ofL l)))] (.tp [.ag (.c (.slice none 0 0) :: pt2 (g2V (((l.drop 4).drop 4).take 96))), vi0 0]) := by
 have hR : 96 <= ((l.drop 4).drop 4).length := by omega
 exact p6 (P := prog) (X := qa _) (env := [rW, sJ]) ⟨qM, qY, tt0⟩ func10 3 (oL ((VO l N) ++ [(109, lpO { I := gkZ N ((l.drop 4).drop 4) 0, ex := .exit 0, E := Z7 ((l.drop 4).drop 4) 0, fr := 110 }), (125, rO 5 0), (139, rO 5 0), (157, wF), (166, wF)])) (by kernel_rfl) ⟨_, rfl⟩ (ai (show (g2E (((l.drop 4).drop 4).take 96) != 0) = false from by rw [h]; rfl) (ai (show (g2E (((l.drop 4).drop 4).take 96) != 0) = false from by rw [h]; rfl) (ai (show (0 : Int) <= 96 /\ (96 : Int) <= (ofL ((l.drop 4).drop 4)).size from ⟨by decide, by show (96 : Int) <= (((l.drop 4).drop 4).length : Nat); omega⟩) (ai (show (0 : Int) <= 96 /\ (96 : Int) <= (ofL ((l.drop 4).drop 4)).size from ⟨by decide, by show (96 : Int) <= (((l.drop 4).drop 4).length : Nat); omega⟩) (ai (show some (gkZ N ((l.drop 4).drop 4) 0) = some (gkZ N ((l.drop 4).drop 4) 0) from rfl) (ai (Cz (Up N hz ((l.drop 4).drop 4) 0)) (ai (show ((((ofL ((l.drop 4).drop 4)).size : Nat) : Int) != ((N * 48 + 96 : Nat) : Int)) = false from by
    have h1 : ((((l.drop 4).drop 4).length : Nat) : Int) = ((N * 48 + 96 : Nat) : Int) := by omega
    exact SY h1) (ai (show IntKind.i64.wrap (((N * 48 : Nat) : Int) + 96) = ((N * 48 + 96 : Nat) : Int) from by
    rw [show ((N * 48 : Nat) : Int) + 96 = ((N * 48 + 96 : Nat) : Int) by omega]
    exact rH (by omega)) (ai (show IntKind.i64.wrap (((N : Nat) : Int) * 48) = ((N * 48 : Nat) : Int) from by
    rw [show ((N : Nat) : Int) * 48 = ((N * 48 : Nat) : Int) by omega]
    exact rH (by omega)) (ai (show IntKind.i64.wrap ((N : Nat) : Int) = ((N : Nat) : Int) from rH (by omega)) (ai (show decide (((N : Nat) : Int) > 4096) = false from decide_eq_false (by omega)) (ai (cs4 h4) (ai (zi hNe) (ai (cw (l.drop 4) 3) (ai (cid 3 h4 (by decide)) (ai (zo (l.drop 4)) (ai (Cx (qU (l.drop 4) 2)) (ai (cw (l.drop 4) 2) (ai (cid 2 h4 (by decide)) (ai (zb (l.drop 4)) (ai (zn (qU (l.drop 4) 1)) (ai (cw (l.drop 4) 1) (ai (cid 1 h4 (by decide)) (ai (zg (qU (l.drop 4) 0)) (ai (cw (l.drop 4) 0) (ai (cid 0 h4 (by decide)) (ai (clt h4) (ai (show (0 : Int) <= 4 /\ (4 : Int) <= (ofL l).size from ⟨by decide, by show (4 : Int) <= ((l).length : Nat); omega⟩) (ai (show (!((ofL (l.take 4)).toList == (ofL Sn).toList)) = false from by rw [hm]; simp) (ai (show (0 : Int) <= 4 /\ (4 : Int) <= (ofL l).size from ⟨by decide, by show (4 : Int) <= ((l).length : Nat); omega⟩) (ai (show decide ((((ofL l).size : Nat) : Int) < 4) = false from decide_eq_false (by show ¬ ((l.length : Nat) : Int) < 4; omega)) tt0)))))))))))))))))))))))))))))))
theorem Mh (l : LU0) (N : Nat) (hNe : c4 (l.drop 4) = N) (hn : 4 <= l.length) (hm : l.take 4 = Sn) (h4 : 4 <= (l.drop 4).length) (hN : N <= 4096) (hx : ((l.drop 4).drop 4).length = 48 * N + 96) (hz : 0 < N) (R : LU0) (h8 : (nst 48 g1E N (0, ((l.drop 4).drop 4))) = (0, R)) (h : g2E (R.take 96) = 0) : xU prog 10 [.t (.v (.string (ofL l)))] (fun k => .tp [.ag (.sx k N :: pt2 (g2V (R.take 96))), vi0 0]) (.gr [.l (qt (zm (0, ((l.drop 4).drop 4)) N))] 26 13) := by
 have hR : 96 <= R.length := by obtain ⟨_, h6, _⟩ := rq N (0, ((l.drop 4).drop 4)) (by rw [h8]); rw [h8] at h6; rw [show R = ((l.drop 4).drop 4).drop (48 * N) from congrArg Prod.snd h6, List.length_drop]; omega
 exact Ao (P := prog) (X := qa _) (env := [rW, sJ]) ⟨qM, qY, tt0⟩ func10 (fun args w => Go.Proofs.enters_of (P := prog) func10 (by kernel_rfl) rfl args w) 3 (oL ((VO l N) ++ [(109, lpO { I := gkZ N ((l.drop 4).drop 4) 0, ex := .exit 0, E := gkE (qt (zm (0, ((l.drop 4).drop 4)) N)) N R 0, fr := 110 }), (125, rO 5 0), (139, rO 5 0), (157, wF), (166, wF)])) (r0 := .tp [.ag (.sx 24 N :: pt2 (g2V (R.take 96))), vi0 0]) 24 (by kernel_rfl) rfl (ai (show (g2E (R.take 96) != 0) = false from by rw [h]; rfl) (ai (show (g2E (R.take 96) != 0) = false from by rw [h]; rfl) (ai (show (0 : Int) <= 96 /\ (96 : Int) <= (ofL R).size from ⟨by decide, by show (96 : Int) <= (R.length : Nat); omega⟩) (ai (show (0 : Int) <= 96 /\ (96 : Int) <= (ofL R).size from ⟨by decide, by show (96 : Int) <= (R.length : Nat); omega⟩) (ai (show some (gkZ N ((l.drop 4).drop 4) 0) = some (gkZ N ((l.drop 4).drop 4) 0) from rfl) (ai ((by have hh := W6 N hz (by omega) (0, ((l.drop 4).drop 4)) (fun _ => by show 48 * N <= ((l.drop 4).drop 4).length; omega); rw [h8] at hh; exact hh)) (ai (show ((((ofL ((l.drop 4).drop 4)).size : Nat) : Int) != ((N * 48 + 96 : Nat) : Int)) = false from by
    have h1 : ((((l.drop 4).drop 4).length : Nat) : Int) = ((N * 48 + 96 : Nat) : Int) := by omega
    exact SY h1) (ai (show IntKind.i64.wrap (((N * 48 : Nat) : Int) + 96) = ((N * 48 + 96 : Nat) : Int) from by
    rw [show ((N * 48 : Nat) : Int) + 96 = ((N * 48 + 96 : Nat) : Int) by omega]
    exact rH (by omega)) (ai (show IntKind.i64.wrap (((N : Nat) : Int) * 48) = ((N * 48 : Nat) : Int) from by
    rw [show ((N : Nat) : Int) * 48 = ((N * 48 : Nat) : Int) by omega]
    exact rH (by omega)) (ai (show IntKind.i64.wrap ((N : Nat) : Int) = ((N : Nat) : Int) from rH (by omega)) (ai (show decide (((N : Nat) : Int) > 4096) = false from decide_eq_false (by omega)) (ai (cs4 h4) (ai (zi hNe) (ai (cw (l.drop 4) 3) (ai (cid 3 h4 (by decide)) (ai (zo (l.drop 4)) (ai (Cx (qU (l.drop 4) 2)) (ai (cw (l.drop 4) 2) (ai (cid 2 h4 (by decide)) (ai (zb (l.drop 4)) (ai (zn (qU (l.drop 4) 1)) (ai (cw (l.drop 4) 1) (ai (cid 1 h4 (by decide)) (ai (zg (qU (l.drop 4) 0)) (ai (cw (l.drop 4) 0) (ai (cid 0 h4 (by decide)) (ai (clt h4) (ai (show (0 : Int) <= 4 /\ (4 : Int) <= (ofL l).size from ⟨by decide, by show (4 : Int) <= ((l).length : Nat); omega⟩) (ai (show (!((ofL (l.take 4)).toList == (ofL Sn).toList)) = false from by rw [hm]; simp) (ai (show (0 : Int) <= 4 /\ (4 : Int) <= (ofL l).size from ⟨by decide, by show (4 : Int) <= ((l).length : Nat); omega⟩) (ai (show decide ((((ofL l).size : Nat) : Int) < 4) = false from decide_eq_false (by show ¬ ((l.length : Nat) : Int) < 4; omega)) tt0))))))))))))))))))))))))))))))) _ (QB rfl)
end Go.Proofs.YtokjhbmmdmeafaaGreat
set_option linter.unusedSimpArgs false
set_option linter.unusedVariables false
namespace Go.Proofs.YtokjhbmmdmeafaaGreat
open Go.Ev Go.RowKit
open Tryz
end Go.Proofs.YtokjhbmmdmeafaaGreat
