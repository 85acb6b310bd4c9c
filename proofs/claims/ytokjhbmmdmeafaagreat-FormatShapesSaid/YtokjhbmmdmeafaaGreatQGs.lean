/- Pruned: Gs. -/
import Derived.Test.YtokjhbmmdmeafaaGreatQGl
import Derived.Test.YtokjhbmmdmeafaaGreatQGm
import Derived.Test.YtokjhbmmdmeafaaGreatQGo
import Derived.Test.YtokjhbmmdmeafaaGreatQGt
set_option linter.unusedSimpArgs false
set_option linter.unusedVariables false
namespace Go.Proofs.YtokjhbmmdmeafaaGreat
open Go.Ev Go.RowKit
open Tryz
def prt (e : Int) : Prop := e = 0 ∨ e = 20 ∨ e = 30 ∨ e = 31 ∨ e = 32 ∨ e = 33 ∨ e = 1
theorem CS : prt 0 := .inl rfl
theorem O3 (c : LU0) (h : c.length = 48) : prt (g1E c) := by
 rcases TS c h with h | h | h | h | h | h <;> simp [prt, h]
theorem GQ (c : LU0) (h : c.length = 32) : prt (gfE c) := by
 rcases TX c h with h | h <;> simp [prt, h]
theorem UP (l : LU0) : (shP l ≠ 0 -> Bc l = shP l) /\ (shP l = 0 -> prt (Bc l)) := by
 unfold shP Bc
 by_cases hm : l.take 4 = mgP
 ·rw [if_pos hm, if_pos hm]
  by_cases hn : l.length = 628
  ·rw [if_pos hn, if_pos hn]
   refine ⟨fun h => absurd rfl h, fun _ => ?_⟩
   have h9 := wX (sz := 48) (E := g1E) O3 CS (l := l.drop 4) 9 (by rw [List.length_drop]; omega)
   show prt (nst 32 gfE 6 (nst 48 g1E 9 (0, l.drop 4))).1
   by_cases hz : (nst 48 g1E 9 (0, l.drop 4)).1 = 0
   ·obtain ⟨_, h2, _⟩ := p7 9 (0, l.drop 4) hz
    rw [h2]
    exact wX (sz := 32) (E := gfE) GQ CS 6 (by show 32 * 6 <= ((l.drop 4).drop (48 * 9)).length; rw [List.length_drop, List.length_drop]; omega)
   ·rw [si hz]; exact h9
  ·rw [if_neg hn, if_neg hn]
   exact ⟨fun _ => rfl, fun h => absurd h (by decide)⟩
 ·rw [if_neg hm, if_neg hm]
  exact ⟨fun _ => rfl, fun h => absurd h (by decide)⟩
theorem T8 (l : LU0) : (shW l ≠ 0 -> Aa l = shW l) /\ (shW l = 0 -> prt (Aa l)) := by
 unfold shW Aa
 by_cases hm : l.take 4 = mgW
 ·rw [if_pos hm, if_pos hm]
  have hn := rN hm rfl
  by_cases h4 : (l.drop 4).length < 4
  ·rw [if_pos h4, if_pos h4]
   exact ⟨fun _ => rfl, fun h => absurd h (by decide)⟩
  ·rw [if_neg h4, if_neg h4]
   by_cases hN : 64 < c4 (l.drop 4)
   ·rw [if_pos hN, if_pos hN]
    exact ⟨fun _ => rfl, fun h => absurd h (by decide)⟩
   ·rw [if_neg hN, if_neg hN]
    by_cases hx : l.length - 4 = 4 + 32 * c4 (l.drop 4)
    ·have hz : ((l.drop 4).drop 4).length = 32 * c4 (l.drop 4) := by rw [List.length_drop, List.length_drop]; omega
     rw [if_pos hx, if_pos hz]
     exact ⟨fun h => absurd rfl h, fun _ => wX (sz := 32) (E := gfE) GQ CS _ (by omega)⟩
    ·have hz : ¬ ((l.drop 4).drop 4).length = 32 * c4 (l.drop 4) := by rw [List.length_drop, List.length_drop]; rw [List.length_drop] at h4; omega
     rw [if_neg hx, if_neg hz]
     exact ⟨fun _ => rfl, fun h => absurd h (by decide)⟩
 ·rw [if_neg hm, if_neg hm]
  exact ⟨fun _ => rfl, fun h => absurd h (by decide)⟩
end Go.Proofs.YtokjhbmmdmeafaaGreat
set_option linter.unusedSimpArgs false
set_option linter.unusedVariables false
namespace Go.Proofs.YtokjhbmmdmeafaaGreat
open Go.Ev Go.RowKit
open Tryz
def Ig {l : LU0} (hs : l.length <= 9223372036854775807) (hn : l.length < 4) := PLift.up (ai (show decide ((((ofL l).size : Nat) : Int) < 4) = true from decide_eq_true (by show  ((l.length : Nat) : Int) < 4; omega)) tt0)
theorem sa {a : List XV} {r : AV} {b : Prop} (o : Nat -> Ora) (h : fnA prog (pC _) [] 1 o f12 a = some (r, b)) (hv : ∃ v, r.val? = some v) (hb : b) : Gives prog 12 a r := pz (P := prog) (X := pC _) (env := []) trivial func12 1 o h hv hb
theorem aaw (l : LU0) (hs : l.length <= 9223372036854775807) (hn : l.length < 4) : Gives prog 12 [.t (.v (.string (ofL mgV))), .t (.v (.string (ofL l)))] (vi0 80) :=
 sa (oL [(3, wT)]) (by kernel_rfl) ⟨_, rfl⟩
  (Ig hs hn).down
def Jw {l : LU0} (hs : l.length <= 9223372036854775807) (hn : 4 <= l.length) := PLift.up (show (0 : Int) <= 4 /\ (4 : Int) <= (ofL l).size from ⟨by decide, by show (4 : Int) <= ((l).length : Nat); omega⟩)
def Ct {l : LU0} (hs : l.length <= 9223372036854775807) (hn : 4 <= l.length) := PLift.up (ai (Jw hs hn).down (ai (show decide ((((ofL l).size : Nat) : Int) < 4) = false from decide_eq_false (by show ¬ ((l.length : Nat) : Int) < 4; omega)) tt0))
abbrev Hy := oL [(3, wF), (6, rO 5 0), (8, wT)]
theorem Zt (l : LU0) (hs : l.length <= 9223372036854775807) (hn : 4 <= l.length) (hm : l.take 4 ≠ mgV) : Gives prog 12 [.t (.v (.string (ofL mgV))), .t (.v (.string (ofL l)))] (vi0 80) :=
 sa Hy (by kernel_rfl) ⟨_, rfl⟩ (ai (show (!((ofL (l.take 4)).toList == (ofL mgV).toList)) = true from BM hm)
   (Ct hs hn).down)
def Mj {l : LU0} (hs : l.length <= 9223372036854775807) (hn : 4 <= l.length) (hm : l.take 4 = mgV) := PLift.up (ai (show ((ofL mgV).toList == (ofL mgP).toList) = false from xu (by decide)) (ai (Jw hs hn).down (ai (show (!((ofL (l.take 4)).toList == (ofL mgV).toList)) = false from by rw [hm]; simp)
   (Ct hs hn).down)))
theorem abd (l : LU0) (hs : l.length <= 9223372036854775807) (hn : 4 <= l.length) (hm : l.take 4 = mgV) (hx : l.length = 486) : Gives prog 12 [.t (.v (.string (ofL mgV))), .t (.v (.string (ofL l)))] (vi0 0) :=
 sa (oL [(3, wF), (6, rO 5 0), (8, wF), (12, rO 5 0), (17, wF), (19, wT), (35, wF)]) (by kernel_rfl) ⟨_, rfl⟩ (ai (show (IntKind.i64.wrap ((((ofL l).size : Nat) : Int) - 4) != 482) = false from by
    have h1 : IntKind.i64.wrap ((((ofL l).size : Nat) : Int) - 4) = ((l.length : Nat) : Int) - 4 := by
     show IntKind.i64.wrap (((l.length : Nat) : Int) - 4) = _
     rw [pN]; omega
    rw [h1]
    exact vt (by omega)) (ai (show ((ofL mgV).toList == (ofL mgV).toList) = true from xv _)
   (Mj hs hn hm).down))
theorem Y9 (l : LU0) (hs : l.length <= 9223372036854775807) (hn : 4 <= l.length) (hm : l.take 4 = mgV) (hx : l.length ≠ 486) : Gives prog 12 [.t (.v (.string (ofL mgV))), .t (.v (.string (ofL l)))] (vi0 3) :=
 sa (oL [(3, wF), (6, rO 5 0), (8, wF), (12, rO 5 0), (17, wF), (19, wT), (35, wT)]) (by kernel_rfl) ⟨_, rfl⟩ (ai (show (IntKind.i64.wrap ((((ofL l).size : Nat) : Int) - 4) != 482) = true from by
    have h1 : IntKind.i64.wrap ((((ofL l).size : Nat) : Int) - 4) = ((l.length : Nat) : Int) - 4 := by
     show IntKind.i64.wrap (((l.length : Nat) : Int) - 4) = _
     rw [pN]; omega
    rw [h1]
    exact bne_iff_ne.2 (by omega)) (ai (show ((ofL mgV).toList == (ofL mgV).toList) = true from xv _)
   (Mj hs hn hm).down))
theorem ZC (l : LU0) (hs : l.length <= 9223372036854775807) (hn : l.length < 4) : Gives prog 12 [.t (.v (.string (ofL qm))), .t (.v (.string (ofL l)))] (vi0 80) :=
 sa (oL [(3, wT)]) (by kernel_rfl) ⟨_, rfl⟩
  (Ig hs hn).down
theorem Yw (l : LU0) (hs : l.length <= 9223372036854775807) (hn : 4 <= l.length) (hm : l.take 4 ≠ qm) : Gives prog 12 [.t (.v (.string (ofL qm))), .t (.v (.string (ofL l)))] (vi0 80) :=
 sa Hy (by kernel_rfl) ⟨_, rfl⟩ (ai (show (!((ofL (l.take 4)).toList == (ofL qm).toList)) = true from BM hm)
   (Ct hs hn).down)
def Og {l : LU0} (hs : l.length <= 9223372036854775807) (hn : 4 <= l.length) (hm : l.take 4 = qm) := PLift.up (ai (show ((ofL qm).toList == (ofL mgV).toList) = false from xu (by decide)) (ai (show ((ofL qm).toList == (ofL mgP).toList) = false from xu (by decide)) (ai (Jw hs hn).down (ai (show (!((ofL (l.take 4)).toList == (ofL qm).toList)) = false from by rw [hm]; simp)
   (Ct hs hn).down))))
abbrev PN := oL [(3, wF), (6, rO 5 0), (8, wF), (12, rO 5 0), (17, wF), (19, wF), (23, wT)]
theorem Zn (l : LU0) (hs : l.length <= 9223372036854775807) (hn : 4 <= l.length) (hm : l.take 4 = qm) (h4 : (l.drop 4).length < 4) : Gives prog 12 [.t (.v (.string (ofL qm))), .t (.v (.string (ofL l)))] (vi0 3) :=
 sa PN (by kernel_rfl) ⟨_, rfl⟩ (ai (show decide ((((ofL (l.drop 4)).size : Nat) : Int) < 4) = true from decide_eq_true (by show  (((l.drop 4).length : Nat) : Int) < 4; omega))
   (Og hs hn hm).down)
def TE {l : LU0} (hs : l.length <= 9223372036854775807) (hn : 4 <= l.length) (h4 : 4 <= (l.drop 4).length) := PLift.up (show IntKind.i64.wrap (((BitVec.ofInt 64 (((cn (l.drop 4) 0 * 16777216) + cn (l.drop 4) 1 * 65536 : Nat) : Int) ||| BitVec.ofInt 64 ((cn (l.drop 4) 2 * 256 : Nat) : Int)).toNat : Nat) : Int) = ((((cn (l.drop 4) 0 * 16777216) + cn (l.drop 4) 1 * 65536) + cn (l.drop 4) 2 * 256 : Nat) : Int) from uB ((cn (l.drop 4) 0 * 16777216) + cn (l.drop 4) 1 * 65536) (cn (l.drop 4) 2 * 256) 16 (by have := pA (l.drop 4) 2; omega) (by omega) (by have := pA (l.drop 4) 0; have := pA (l.drop 4) 1; have := pA (l.drop 4) 2; have := pA (l.drop 4) 3; omega))
def S9 {l : LU0} (hs : l.length <= 9223372036854775807) (hn : 4 <= l.length) (h4 : 4 <= (l.drop 4).length) := PLift.up (show IntKind.i64.wrap (((BitVec.ofInt 64 ((cn (l.drop 4) 0 * 16777216 : Nat) : Int) ||| BitVec.ofInt 64 ((cn (l.drop 4) 1 * 65536 : Nat) : Int)).toNat : Nat) : Int) = (((cn (l.drop 4) 0 * 16777216) + cn (l.drop 4) 1 * 65536 : Nat) : Int) from uB (cn (l.drop 4) 0 * 16777216) (cn (l.drop 4) 1 * 65536) 24 (by have := pA (l.drop 4) 1; omega) (by omega) (by have := pA (l.drop 4) 0; have := pA (l.drop 4) 1; have := pA (l.drop 4) 2; have := pA (l.drop 4) 3; omega))
def Qg {l : LU0} (hs : l.length <= 9223372036854775807) (hn : 4 <= l.length) (h4 : 4 <= (l.drop 4).length) := PLift.up (show (0 : Int) <= 3 /\ (3 : Int) < (ofL (l.drop 4)).size /\ ((ofL (l.drop 4))[(3 : Int).toNat]?.getD 0).toNat = cn (l.drop 4) 3 from tR (l.drop 4) 3 (by have h4 : 4 <= (l.drop 4).length := h4; omega))
def Mn {l : LU0} (hs : l.length <= 9223372036854775807) (hn : 4 <= l.length) (h4 : 4 <= (l.drop 4).length) := PLift.up (show (0 : Int) <= 2 /\ (2 : Int) < (ofL (l.drop 4)).size /\ ((ofL (l.drop 4))[(2 : Int).toNat]?.getD 0).toNat = cn (l.drop 4) 2 from tR (l.drop 4) 2 (by have h4 : 4 <= (l.drop 4).length := h4; omega))
def N4 {l : LU0} (hs : l.length <= 9223372036854775807) (hn : 4 <= l.length) (h4 : 4 <= (l.drop 4).length) := PLift.up (show (0 : Int) <= 1 /\ (1 : Int) < (ofL (l.drop 4)).size /\ ((ofL (l.drop 4))[(1 : Int).toNat]?.getD 0).toNat = cn (l.drop 4) 1 from tR (l.drop 4) 1 (by have h4 : 4 <= (l.drop 4).length := h4; omega))
def Ny {l : LU0} (hs : l.length <= 9223372036854775807) (hn : 4 <= l.length) (h4 : 4 <= (l.drop 4).length) := PLift.up (show (0 : Int) <= 0 /\ (0 : Int) < (ofL (l.drop 4)).size /\ ((ofL (l.drop 4))[(0 : Int).toNat]?.getD 0).toNat = cn (l.drop 4) 0 from tR (l.drop 4) 0 (by have h4 : 4 <= (l.drop 4).length := h4; omega))
def QC (l : LU0) := PLift.up (show IntKind.i64.wrap (((cn (l.drop 4) 0 : Nat) : Int) * 2 ^ min (24 : Int).toNat IntKind.i64.bits) = ((cn (l.drop 4) 0 * 16777216 : Nat) : Int) from PY (pA (l.drop 4) 0))
def M3 (l : LU0) := PLift.up (show IntKind.i64.wrap (((cn (l.drop 4) 1 : Nat) : Int) * 2 ^ min (16 : Int).toNat IntKind.i64.bits) = ((cn (l.drop 4) 1 * 65536 : Nat) : Int) from PQ (pA (l.drop 4) 1))
def Mv (l : LU0) := PLift.up (show IntKind.i64.wrap (((cn (l.drop 4) 2 : Nat) : Int) * 2 ^ min (8 : Int).toNat IntKind.i64.bits) = ((cn (l.drop 4) 2 * 256 : Nat) : Int) from TH (pA (l.drop 4) 2))
def Tj {l : LU0} (hs : l.length <= 9223372036854775807) (hn : 4 <= l.length) (hm : l.take 4 = qm) (h4 : 4 <= (l.drop 4).length) := PLift.up (ai (show IntKind.i64.wrap ((cn (l.drop 4) 3 : Nat) : Int) = ((cn (l.drop 4) 3 : Nat) : Int) from py (by have := pA (l.drop 4) 3; omega)) (ai (Qg hs hn h4).down (ai (TE hs hn h4).down (ai (Mv l).down (ai (show IntKind.i64.wrap ((cn (l.drop 4) 2 : Nat) : Int) = ((cn (l.drop 4) 2 : Nat) : Int) from py (by have := pA (l.drop 4) 2; omega)) (ai (Mn hs hn h4).down (ai (S9 hs hn h4).down (ai (M3 l).down (ai (show IntKind.i64.wrap ((cn (l.drop 4) 1 : Nat) : Int) = ((cn (l.drop 4) 1 : Nat) : Int) from py (by have := pA (l.drop 4) 1; omega)) (ai (N4 hs hn h4).down (ai (QC l).down (ai (show IntKind.i64.wrap ((cn (l.drop 4) 0 : Nat) : Int) = ((cn (l.drop 4) 0 : Nat) : Int) from py (by have := pA (l.drop 4) 0; omega)) (ai (Ny hs hn h4).down (ai (show decide ((((ofL (l.drop 4)).size : Nat) : Int) < 4) = false from decide_eq_false (by show ¬ (((l.drop 4).length : Nat) : Int) < 4; omega))
   (Og hs hn hm).down))))))))))))))
def TC {l : LU0} (hs : l.length <= 9223372036854775807) (hn : 4 <= l.length) (h4 : 4 <= (l.drop 4).length) (hN : 4096 < c4 (l.drop 4)) := PLift.up (show IntKind.i64.wrap (((BitVec.ofInt 64 ((((cn (l.drop 4) 0 * 16777216) + cn (l.drop 4) 1 * 65536) + cn (l.drop 4) 2 * 256 : Nat) : Int) ||| BitVec.ofInt 64 ((cn (l.drop 4) 3 : Nat) : Int)).toNat : Nat) : Int) = ((c4 (l.drop 4) : Nat) : Int) from uB (((cn (l.drop 4) 0 * 16777216) + cn (l.drop 4) 1 * 65536) + cn (l.drop 4) 2 * 256) (cn (l.drop 4) 3) 8 (by have := pA (l.drop 4) 3; omega) (by omega) (by have := pA (l.drop 4) 0; have := pA (l.drop 4) 1; have := pA (l.drop 4) 2; have := pA (l.drop 4) 3; omega))
def W3 (l : LU0) : Nat × Ora := (37, { ch := 1, hi := fun _ => ((cn (l.drop 4) 0 * 16777216) + cn (l.drop 4) 1 * 65536) + cn (l.drop 4) 2 * 256 })
def VA (l : LU0) : Nat × Ora := (32, { ch := 1, hi := fun _ => (cn (l.drop 4) 0 * 16777216) + cn (l.drop 4) 1 * 65536 })
def VE (l : LU0) : Nat × Ora := (27, { ch := 1, hi := fun _ => cn (l.drop 4) 0 * 16777216 })
def Vz (l : LU0) : Nat × Ora := (31, { ch := 1, hi := fun _ => cn (l.drop 4) 1 * 65536 })
def Wa (l : LU0) : Nat × Ora := (36, { ch := 1, hi := fun _ => cn (l.drop 4) 2 * 256 })
def Ug (l : LU0) : Nat × Ora := (40, { ch := 1, hi := fun _ => cn (l.drop 4) 3 })
def Uo (l : LU0) : Nat × Ora := (35, { ch := 1, hi := fun _ => cn (l.drop 4) 2 })
def UN (l : LU0) : Nat × Ora := (30, { ch := 1, hi := fun _ => cn (l.drop 4) 1 })
def WY (l : LU0) : Nat × Ora := (26, { ch := 1, hi := fun _ => cn (l.drop 4) 0 })
def Va (l : LU0) : Nat × Ora := (41, { ch := 1, hi := fun _ => c4 (l.drop 4) })
def WQ (l : LU0) : Nat × Ora := (39, rO 1 (cn (l.drop 4) 3))
def Ut (l : LU0) : Nat × Ora := (34, rO 1 (cn (l.drop 4) 2))
def VB (l : LU0) : Nat × Ora := (29, rO 1 (cn (l.drop 4) 1))
def Vc (l : LU0) : Nat × Ora := (25, rO 1 (cn (l.drop 4) 0))
abbrev H8 := (ofL qm).toList == (ofL qm).toList
def QJ := PLift.up (show ((ofL qm).toList == (ofL mgW).toList) = false from xu (by decide))
def yV (l : LU0) : LO0 := [(3, wF), (6, rO 5 0), (8, wF), (12, rO 5 0), (17, wF), (19, wF), (23, wF), (Vc l), (WY l), (VE l), (VB l), (UN l), (Vz l), (VA l), (Ut l), (Uo l), (Wa l), (W3 l), (WQ l), (Ug l), (Va l), (44, wF)]
theorem ZX (l : LU0) (hs : l.length <= 9223372036854775807) (hn : 4 <= l.length) (hm : l.take 4 = qm) (h4 : 4 <= (l.drop 4).length) (hN : 4096 < c4 (l.drop 4)) : Gives prog 12 [.t (.v (.string (ofL qm))), .t (.v (.string (ofL l)))] (vi0 2) :=
 sa (oL ((yV l) ++ [(46, wT), (49, wT)])) (by kernel_rfl) ⟨_, rfl⟩ (ai (show decide (((c4 (l.drop 4) : Nat) : Int) > 4096) = true from decide_eq_true (by omega)) (ai (show H8 = true from xv _) (ai QJ.down (ai (TC hs hn h4 hN).down
   (Tj hs hn hm h4).down))))
def Tm {l : LU0} (hs : l.length <= 9223372036854775807) (hn : 4 <= l.length) (hm : l.take 4 = qm) (h4 : 4 <= (l.drop 4).length) (hN : c4 (l.drop 4) <= 4096) := PLift.up (ai QJ.down (ai (show IntKind.i64.wrap (((BitVec.ofInt 64 ((((cn (l.drop 4) 0 * 16777216) + cn (l.drop 4) 1 * 65536) + cn (l.drop 4) 2 * 256 : Nat) : Int) ||| BitVec.ofInt 64 ((cn (l.drop 4) 3 : Nat) : Int)).toNat : Nat) : Int) = ((c4 (l.drop 4) : Nat) : Int) from uB (((cn (l.drop 4) 0 * 16777216) + cn (l.drop 4) 1 * 65536) + cn (l.drop 4) 2 * 256) (cn (l.drop 4) 3) 8 (by have := pA (l.drop 4) 3; omega) (by omega) (by have := pA (l.drop 4) 0; have := pA (l.drop 4) 1; have := pA (l.drop 4) 2; have := pA (l.drop 4) 3; omega))
   (Tj hs hn hm h4).down))
def Qe {l : LU0} (hs : l.length <= 9223372036854775807) (hn : 4 <= l.length) (hm : l.take 4 = qm) (h4 : 4 <= (l.drop 4).length) (hN : c4 (l.drop 4) <= 4096) := PLift.up (show IntKind.i64.wrap (12 + ((c4 (l.drop 4) * 172 : Nat) : Int)) = ((12 + c4 (l.drop 4) * 172 : Nat) : Int) from by
    rw [show (12 + ((c4 (l.drop 4) * 172 : Nat) : Int) : Int) = ((12 + c4 (l.drop 4) * 172 : Nat) : Int) by omega]
    exact py (by omega))
def OD (l : LU0) : LO0 := [(46, wT), (49, wF), (51, { ch := 1, hi := fun _ => c4 (l.drop 4) * 172 }), (52, { ch := 1, hi := fun _ => 12 + c4 (l.drop 4) * 172 })]
theorem aa1 (l : LU0) (hs : l.length <= 9223372036854775807) (hn : 4 <= l.length) (hm : l.take 4 = qm) (h4 : 4 <= (l.drop 4).length) (hN : c4 (l.drop 4) <= 4096) (hx : l.length - 4 = 12 + c4 (l.drop 4) * 172) : Gives prog 12 [.t (.v (.string (ofL qm))), .t (.v (.string (ofL l)))] (vi0 0) :=
 sa (oL ((yV l) ++ (OD l) ++ [(67, wF)])) (by kernel_rfl) ⟨_, rfl⟩ (ai (show (IntKind.i64.wrap ((((ofL l).size : Nat) : Int) - 4) != ((12 + c4 (l.drop 4) * 172 : Nat) : Int)) = false from by
    have h1 : IntKind.i64.wrap ((((ofL l).size : Nat) : Int) - 4) = ((l.length : Nat) : Int) - 4 := by
     show IntKind.i64.wrap (((l.length : Nat) : Int) - 4) = _
     rw [pN]; omega
    rw [h1]
    exact vt (by omega)) (ai (Qe hs hn hm h4 hN).down (ai (show IntKind.i64.wrap (((c4 (l.drop 4) : Nat) : Int) * 172) = ((c4 (l.drop 4) * 172 : Nat) : Int) from by
    rw [show (((c4 (l.drop 4) : Nat) : Int) * 172 : Int) = ((c4 (l.drop 4) * 172 : Nat) : Int) by omega]
    exact py (by omega)) (ai (show decide (((c4 (l.drop 4) : Nat) : Int) > 4096) = false from decide_eq_false (by omega)) (ai (show H8 = true from xv _)
   (Tm hs hn hm h4 hN).down)))))
theorem ZG (l : LU0) (hs : l.length <= 9223372036854775807) (hn : 4 <= l.length) (hm : l.take 4 = qm) (h4 : 4 <= (l.drop 4).length) (hN : c4 (l.drop 4) <= 4096) (hx : l.length - 4 ≠ 12 + c4 (l.drop 4) * 172) : Gives prog 12 [.t (.v (.string (ofL qm))), .t (.v (.string (ofL l)))] (vi0 3) :=
 sa (oL ((yV l) ++ (OD l) ++ [(67, wT)])) (by kernel_rfl) ⟨_, rfl⟩ (ai (show (IntKind.i64.wrap ((((ofL l).size : Nat) : Int) - 4) != ((12 + c4 (l.drop 4) * 172 : Nat) : Int)) = true from by
    have h1 : IntKind.i64.wrap ((((ofL l).size : Nat) : Int) - 4) = ((l.length : Nat) : Int) - 4 := by
     show IntKind.i64.wrap (((l.length : Nat) : Int) - 4) = _
     rw [pN]; omega
    rw [h1]
    exact bne_iff_ne.2 (by omega)) (ai (Qe hs hn hm h4 hN).down (ai (show IntKind.i64.wrap (((c4 (l.drop 4) : Nat) : Int) * 172) = ((c4 (l.drop 4) * 172 : Nat) : Int) from by
    rw [show (((c4 (l.drop 4) : Nat) : Int) * 172 : Int) = ((c4 (l.drop 4) * 172 : Nat) : Int) by omega]
    exact py (by omega)) (ai (show decide (((c4 (l.drop 4) : Nat) : Int) > 4096) = false from decide_eq_false (by omega)) (ai (show H8 = true from xv _)
   (Tm hs hn hm h4 hN).down)))))
def shC (l : LU0) : Int := if l.take 4 = qm then (if (l.drop 4).length < 4 then 3 else if 4096 < c4 (l.drop 4) then 2 else if l.length - 4 = 12 + c4 (l.drop 4) * 172 then 0 else 3) else 80
theorem Cn (l : LU0) (hs : l.length <= 9223372036854775807) : Gives prog 12 [.t (.v (.string (ofL qm))), .t (.v (.string (ofL l)))] (vi0 (shC l)) := by
 unfold shC
 by_cases hm : l.take 4 = qm
 ·have hn := rN hm rfl
  rw [if_pos hm]
  by_cases h4 : (l.drop 4).length < 4
  ·rw [if_pos h4]; exact Zn l hs hn hm h4
  ·rw [if_neg h4]
   by_cases hN : 4096 < c4 (l.drop 4)
   ·rw [if_pos hN]; exact ZX l hs hn hm (by omega) hN
   ·rw [if_neg hN]
    by_cases hx : l.length - 4 = 12 + c4 (l.drop 4) * 172
    ·rw [if_pos hx]; exact aa1 l hs hn hm (by omega) (by omega) hx
    ·rw [if_neg hx]; exact ZG l hs hn hm (by omega) (by omega) hx
 ·rw [if_neg hm]
  by_cases hn : l.length < 4
  ·exact ZC l hs hn
  ·exact Yw l hs (by omega) hm
theorem Xr (l : LU0) (hs : l.length <= 9223372036854775807) (hn : l.length < 4) : Gives prog 12 [.t (.v (.string (ofL qy))), .t (.v (.string (ofL l)))] (vi0 80) :=
 sa (oL [(3, wT)]) (by kernel_rfl) ⟨_, rfl⟩
  (Ig hs hn).down
theorem XS (l : LU0) (hs : l.length <= 9223372036854775807) (hn : 4 <= l.length) (hm : l.take 4 ≠ qy) : Gives prog 12 [.t (.v (.string (ofL qy))), .t (.v (.string (ofL l)))] (vi0 80) :=
 sa Hy (by kernel_rfl) ⟨_, rfl⟩ (ai (show (!((ofL (l.take 4)).toList == (ofL qy).toList)) = true from BM hm)
   (Ct hs hn).down)
def MY {l : LU0} (hs : l.length <= 9223372036854775807) (hn : 4 <= l.length) (hm : l.take 4 = qy) := PLift.up (ai (show ((ofL qy).toList == (ofL mgV).toList) = false from xu (by decide)) (ai (show ((ofL qy).toList == (ofL mgP).toList) = false from xu (by decide)) (ai (Jw hs hn).down (ai (show (!((ofL (l.take 4)).toList == (ofL qy).toList)) = false from by rw [hm]; simp)
   (Ct hs hn).down))))
theorem aal (l : LU0) (hs : l.length <= 9223372036854775807) (hn : 4 <= l.length) (hm : l.take 4 = qy) (h4 : (l.drop 4).length < 4) : Gives prog 12 [.t (.v (.string (ofL qy))), .t (.v (.string (ofL l)))] (vi0 3) :=
 sa PN (by kernel_rfl) ⟨_, rfl⟩ (ai (show decide ((((ofL (l.drop 4)).size : Nat) : Int) < 4) = true from decide_eq_true (by show  (((l.drop 4).length : Nat) : Int) < 4; omega))
   (MY hs hn hm).down)
def Tb {l : LU0} (hs : l.length <= 9223372036854775807) (hn : 4 <= l.length) (hm : l.take 4 = qy) (h4 : 4 <= (l.drop 4).length) := PLift.up (ai (show IntKind.i64.wrap ((cn (l.drop 4) 3 : Nat) : Int) = ((cn (l.drop 4) 3 : Nat) : Int) from py (by have := pA (l.drop 4) 3; omega)) (ai (Qg hs hn h4).down (ai (TE hs hn h4).down (ai (Mv l).down (ai (show IntKind.i64.wrap ((cn (l.drop 4) 2 : Nat) : Int) = ((cn (l.drop 4) 2 : Nat) : Int) from py (by have := pA (l.drop 4) 2; omega)) (ai (Mn hs hn h4).down (ai (S9 hs hn h4).down (ai (M3 l).down (ai (show IntKind.i64.wrap ((cn (l.drop 4) 1 : Nat) : Int) = ((cn (l.drop 4) 1 : Nat) : Int) from py (by have := pA (l.drop 4) 1; omega)) (ai (N4 hs hn h4).down (ai (QC l).down (ai (show IntKind.i64.wrap ((cn (l.drop 4) 0 : Nat) : Int) = ((cn (l.drop 4) 0 : Nat) : Int) from py (by have := pA (l.drop 4) 0; omega)) (ai (Ny hs hn h4).down (ai (show decide ((((ofL (l.drop 4)).size : Nat) : Int) < 4) = false from decide_eq_false (by show ¬ (((l.drop 4).length : Nat) : Int) < 4; omega))
   (MY hs hn hm).down))))))))))))))
def NT := PLift.up (show ((ofL qy).toList == (ofL qm).toList) = false from xu (by decide))
def NA := PLift.up (show ((ofL qy).toList == (ofL mgW).toList) = false from xu (by decide))
theorem ZN (l : LU0) (hs : l.length <= 9223372036854775807) (hn : 4 <= l.length) (hm : l.take 4 = qy) (h4 : 4 <= (l.drop 4).length) (hN : 4096 < c4 (l.drop 4)) : Gives prog 12 [.t (.v (.string (ofL qy))), .t (.v (.string (ofL l)))] (vi0 2) :=
 sa (oL ((yV l) ++ [(46, wF), (49, wT)])) (by kernel_rfl) ⟨_, rfl⟩ (ai (show decide (((c4 (l.drop 4) : Nat) : Int) > 4096) = true from decide_eq_true (by omega)) (ai NT.down (ai NA.down (ai (TC hs hn h4 hN).down
   (Tb hs hn hm h4).down))))
def Tq {l : LU0} (hs : l.length <= 9223372036854775807) (hn : 4 <= l.length) (hm : l.take 4 = qy) (h4 : 4 <= (l.drop 4).length) (hN : c4 (l.drop 4) <= 4096) := PLift.up (ai (show IntKind.i64.wrap (((4 + 48 * c4 (l.drop 4) : Nat) : Int) + 96) = ((4 + 48 * c4 (l.drop 4) + 96 : Nat) : Int) from by
    rw [show (((4 + 48 * c4 (l.drop 4) : Nat) : Int) + 96 : Int) = ((4 + 48 * c4 (l.drop 4) + 96 : Nat) : Int) by omega]
    exact py (by omega)) (ai (show IntKind.i64.wrap (4 + ((48 * c4 (l.drop 4) : Nat) : Int)) = ((4 + 48 * c4 (l.drop 4) : Nat) : Int) from by
    rw [show (4 + ((48 * c4 (l.drop 4) : Nat) : Int) : Int) = ((4 + 48 * c4 (l.drop 4) : Nat) : Int) by omega]
    exact py (by omega)) (ai (show IntKind.i64.wrap (48 * ((c4 (l.drop 4) : Nat) : Int)) = ((48 * c4 (l.drop 4) : Nat) : Int) from by
    rw [show (48 * ((c4 (l.drop 4) : Nat) : Int) : Int) = ((48 * c4 (l.drop 4) : Nat) : Int) by omega]
    exact py (by omega)) (ai (show decide (((c4 (l.drop 4) : Nat) : Int) > 4096) = false from decide_eq_false (by omega)) (ai NT.down (ai NA.down (ai (show IntKind.i64.wrap (((BitVec.ofInt 64 ((((cn (l.drop 4) 0 * 16777216) + cn (l.drop 4) 1 * 65536) + cn (l.drop 4) 2 * 256 : Nat) : Int) ||| BitVec.ofInt 64 ((cn (l.drop 4) 3 : Nat) : Int)).toNat : Nat) : Int) = ((c4 (l.drop 4) : Nat) : Int) from uB (((cn (l.drop 4) 0 * 16777216) + cn (l.drop 4) 1 * 65536) + cn (l.drop 4) 2 * 256) (cn (l.drop 4) 3) 8 (by have := pA (l.drop 4) 3; omega) (by omega) (by have := pA (l.drop 4) 0; have := pA (l.drop 4) 1; have := pA (l.drop 4) 2; have := pA (l.drop 4) 3; omega))
   (Tb hs hn hm h4).down)))))))
def Qw (l : LU0) : LO0 := [(46, wF), (49, wF), (51, { ch := 1, hi := fun _ => 48 * c4 (l.drop 4) }), (52, { ch := 1, hi := fun _ => 4 + 48 * c4 (l.drop 4) }), (53, { ch := 1, hi := fun _ => 4 + 48 * c4 (l.drop 4) + 96 })]
theorem Xw (l : LU0) (hs : l.length <= 9223372036854775807) (hn : 4 <= l.length) (hm : l.take 4 = qy) (h4 : 4 <= (l.drop 4).length) (hN : c4 (l.drop 4) <= 4096) (hx : l.length - 4 = 4 + 48 * c4 (l.drop 4) + 96) : Gives prog 12 [.t (.v (.string (ofL qy))), .t (.v (.string (ofL l)))] (vi0 0) :=
 sa (oL ((yV l) ++ (Qw l) ++ [(68, wF)])) (by kernel_rfl) ⟨_, rfl⟩ (ai (show (IntKind.i64.wrap ((((ofL l).size : Nat) : Int) - 4) != ((4 + 48 * c4 (l.drop 4) + 96 : Nat) : Int)) = false from by
    have h1 : IntKind.i64.wrap ((((ofL l).size : Nat) : Int) - 4) = ((l.length : Nat) : Int) - 4 := by
     show IntKind.i64.wrap (((l.length : Nat) : Int) - 4) = _
     rw [pN]; omega
    rw [h1]
    exact vt (by omega))
   (Tq hs hn hm h4 hN).down)
theorem Zk (l : LU0) (hs : l.length <= 9223372036854775807) (hn : 4 <= l.length) (hm : l.take 4 = qy) (h4 : 4 <= (l.drop 4).length) (hN : c4 (l.drop 4) <= 4096) (hx : l.length - 4 ≠ 4 + 48 * c4 (l.drop 4) + 96) : Gives prog 12 [.t (.v (.string (ofL qy))), .t (.v (.string (ofL l)))] (vi0 3) :=
 sa (oL ((yV l) ++ (Qw l) ++ [(68, wT)])) (by kernel_rfl) ⟨_, rfl⟩ (ai (show (IntKind.i64.wrap ((((ofL l).size : Nat) : Int) - 4) != ((4 + 48 * c4 (l.drop 4) + 96 : Nat) : Int)) = true from by
    have h1 : IntKind.i64.wrap ((((ofL l).size : Nat) : Int) - 4) = ((l.length : Nat) : Int) - 4 := by
     show IntKind.i64.wrap (((l.length : Nat) : Int) - 4) = _
     rw [pN]; omega
    rw [h1]
    exact bne_iff_ne.2 (by omega))
   (Tq hs hn hm h4 hN).down)
def shK (l : LU0) : Int := if l.take 4 = qy then (if (l.drop 4).length < 4 then 3 else if 4096 < c4 (l.drop 4) then 2 else if l.length - 4 = 4 + 48 * c4 (l.drop 4) + 96 then 0 else 3) else 80
theorem Cj (l : LU0) (hs : l.length <= 9223372036854775807) : Gives prog 12 [.t (.v (.string (ofL qy))), .t (.v (.string (ofL l)))] (vi0 (shK l)) := by
 unfold shK
 by_cases hm : l.take 4 = qy
 ·have hn := rN hm rfl
  rw [if_pos hm]
  by_cases h4 : (l.drop 4).length < 4
  ·rw [if_pos h4]; exact aal l hs hn hm h4
  ·rw [if_neg h4]
   by_cases hN : 4096 < c4 (l.drop 4)
   ·rw [if_pos hN]; exact ZN l hs hn hm (by omega) hN
   ·rw [if_neg hN]
    by_cases hx : l.length - 4 = 4 + 48 * c4 (l.drop 4) + 96
    ·rw [if_pos hx]; exact Xw l hs hn hm (by omega) (by omega) hx
    ·rw [if_neg hx]; exact Zk l hs hn hm (by omega) (by omega) hx
 ·rw [if_neg hm]
  by_cases hn : l.length < 4
  ·exact Xr l hs hn
  ·exact XS l hs (by omega) hm
def shV (l : LU0) : Int := if l.take 4 = mgV then (if l.length = 486 then 0 else 3) else 80
theorem BS (l : LU0) (hs : l.length <= 9223372036854775807) : Gives prog 12 [.t (.v (.string (ofL mgV))), .t (.v (.string (ofL l)))] (vi0 (shV l)) := by
 unfold shV
 by_cases hm : l.take 4 = mgV
 ·have hn := rN hm rfl
  rw [if_pos hm]
  by_cases hx : l.length = 486
  ·rw [if_pos hx]; exact abd l hs hn hm hx
  ·rw [if_neg hx]; exact Y9 l hs hn hm hx
 ·rw [if_neg hm]
  by_cases hn : l.length < 4
  ·exact aaw l hs hn
  ·exact Zt l hs (by omega) hm
end Go.Proofs.YtokjhbmmdmeafaaGreat
set_option linter.unusedSimpArgs false
set_option linter.unusedVariables false
namespace Go.Proofs.YtokjhbmmdmeafaaGreat
open Go.Ev Go.RowKit
open Tryz
theorem Wc (c : LU0) (h : c.length = 96) : prt (g2E c) := by
 rcases WP c h with h | h | h | h | h | h <;> simp [prt, h]
theorem Jk {st : Int × LU0} (h : prt st.1) (hl : st.1 = 0 -> 96 <= st.2.length) : prt (rst 96 g2E st).1 := by
 by_cases h0 : st.1 = 0
 ·rw [IW h0]
  exact Wc _ (by rw [List.length_take]; have := hl h0; omega)
 ·rw [vx h0]; exact h
theorem DF {st : Int × LU0} (h : prt st.1) (n : Nat) (hl : st.1 = 0 -> 48 * n <= st.2.length) : prt (nst 48 g1E n st).1 := by
 by_cases h0 : st.1 = 0
 ·rw [Js h0]
  exact wX (sz := 48) (E := g1E) O3 CS n (hl h0)
 ·rw [si h0]; exact h
theorem Bx {sz : Nat} {E : LU0 -> Int} {l : LU0} (n : Nat) (h : (nst sz E n (0, l)).1 = 0) : (nst sz E n (0, l)).2 = l.drop (sz * n) := by
 rw [(p7 n (0, l) h).2.1]
theorem Un (l : LU0) : (shV l ≠ 0 -> AI l = shV l) /\ (shV l = 0 -> prt (AI l)) := by
 unfold shV AI
 by_cases hm : l.take 4 = mgV
 ·rw [if_pos hm, if_pos hm]
  by_cases hn : l.length = 486
  ·rw [if_pos hn, if_pos hn]
   refine ⟨fun h => absurd rfl h, fun _ => ?_⟩
   have hX : (((l.drop 4).drop 1).drop 1).length = 480 := by simp only [List.length_drop]; omega
   generalize ((l.drop 4).drop 1).drop 1 = x at hX
   unfold qh
   have h5 := DF (st := (0, x)) CS 5 (fun _ => by show 48 * 5 <= x.length; omega)
   have l5 : (nst 48 g1E 5 (0, x)).1 = 0 -> 240 <= (nst 48 g1E 5 (0, x)).2.length := fun h => by rw [Bx 5 h, List.length_drop]; omega
   generalize nst 48 g1E 5 (0, x) = st at h5 l5
   refine Jk (DF h5 3 (fun h => by have := l5 h; omega)) (fun h => ?_)
   obtain ⟨h1, h2, _⟩ := p7 3 st h
   rw [h2]
   show 96 <= (st.2.drop (48 * 3)).length
   have := l5 h1
   rw [List.length_drop]
   omega
  ·rw [if_neg hn, if_neg hn]
   exact ⟨fun _ => rfl, fun h => absurd h (by decide)⟩
 ·rw [if_neg hm, if_neg hm]
  exact ⟨fun _ => rfl, fun h => absurd h (by decide)⟩
theorem VK (l : LU0) : (shK l ≠ 0 -> Ef l = shK l) /\ (shK l = 0 -> prt (Ef l)) := by
 unfold shK Ef z4
 generalize c4 (l.drop 4) = N
 by_cases hm : l.take 4 = qy
 ·rw [if_pos hm, if_pos hm]
  have hn := rN hm rfl
  by_cases h4 : (l.drop 4).length < 4
  ·rw [if_pos h4, if_pos h4]
   exact ⟨fun _ => rfl, fun h => absurd h (by decide)⟩
  rw [if_neg h4, if_neg h4]
  by_cases hN : 4096 < N
  ·rw [if_pos hN, if_pos hN]
   exact ⟨fun _ => rfl, fun h => absurd h (by decide)⟩
  rw [if_neg hN, if_neg hN]
  have hl : ((l.drop 4).drop 4).length = l.length - 8 := by simp only [List.length_drop]; omega
  have h8 : 8 <= l.length := by rw [List.length_drop] at h4; omega
  by_cases hx : l.length - 4 = 4 + 48 * N + 96
  ·rw [if_pos hx, if_pos (show ((l.drop 4).drop 4).length = 48 * N + 96 by omega)]
   refine ⟨fun h => absurd rfl h, fun _ => ?_⟩
   generalize (l.drop 4).drop 4 = y at hl
   refine Jk (DF CS N (fun _ => by show 48 * N <= y.length; omega)) (fun h => ?_)
   rw [Bx N h, List.length_drop]
   omega
  ·rw [if_neg hx, if_neg (show ¬ ((l.drop 4).drop 4).length = 48 * N + 96 by omega)]
   exact ⟨fun _ => rfl, fun h => absurd h (by decide)⟩
 ·rw [if_neg hm, if_neg hm]
  exact ⟨fun _ => rfl, fun h => absurd h (by decide)⟩
theorem WK (l : LU0) (h : 172 <= l.length) : prt (gE l) := wX (sz := 32) (E := gfE) GQ CS 5 (by omega)
theorem Iz (l : LU0) : ∀ n, 172 * n <= l.length -> prt (gEs l n)
 | 0, _ => CS
 | n + 1, h => by
  by_cases h0 : gEs l n = 0
  ·rw [show gEs l (n + 1) = gE (l.drop (172 * n)) from if_pos h0]
   exact WK _ (by rw [List.length_drop]; omega)
  ·rw [show gEs l (n + 1) = gEs l n from if_neg h0]
   exact Iz l n (by omega)
theorem Uk (l : LU0) : (shC l ≠ 0 -> C3 l = shC l) /\ (shC l = 0 -> prt (C3 l)) := by
 unfold shC C3
 generalize c4 (l.drop 4) = N
 generalize c4 ((l.drop 4).drop 4) = p
 generalize c4 (((l.drop 4).drop 4).drop 4) = q
 unfold AR
 by_cases hm : l.take 4 = qm
 ·rw [if_pos hm, if_pos hm]
  have hn := rN hm rfl
  by_cases h4 : (l.drop 4).length < 4
  ·rw [if_pos h4, if_pos h4]
   exact ⟨fun _ => rfl, fun h => absurd h (by decide)⟩
  rw [if_neg h4, if_neg h4]
  by_cases hN : 4096 < N
  ·rw [if_pos hN, if_pos hN]
   exact ⟨fun _ => rfl, fun h => absurd h (by decide)⟩
  rw [if_neg hN, if_neg hN]
  have l4 : (l.drop 4).length = l.length - 4 := List.length_drop
  have l8 : ((l.drop 4).drop 4).length = l.length - 8 := by simp only [List.length_drop]; omega
  have l12 : (((l.drop 4).drop 4).drop 4).length = l.length - 12 := by simp only [List.length_drop]; omega
  have l16 : ((((l.drop 4).drop 4).drop 4).drop 4).length = l.length - 16 := by simp only [List.length_drop]; omega
  by_cases hx : l.length - 4 = 12 + N * 172
  ·rw [if_pos hx, if_neg (by omega), if_neg (by omega), if_pos (by omega)]
   refine ⟨fun h => absurd rfl h, fun _ => ?_⟩
   by_cases hg : gEs ((((l.drop 4).drop 4).drop 4).drop 4) N = 0
   ·rw [if_pos hg]
    by_cases hk : GZ l N p q
    ·rw [if_pos hk]; exact CS
    ·rw [if_neg hk]; simp [prt]
   ·rw [if_neg hg]
    exact Iz _ N (by omega)
  ·rw [if_neg hx]
   refine ⟨fun _ => ?_, fun h => absurd h (by decide)⟩
   by_cases h5 : ((l.drop 4).drop 4).length < 4
   ·rw [if_pos h5]
   ·rw [if_neg h5]
    by_cases h6 : (((l.drop 4).drop 4).drop 4).length < 4
    ·rw [if_pos h6]
    ·rw [if_neg h6, if_neg (by omega)]
 ·rw [if_neg hm, if_neg hm]
  exact ⟨fun _ => rfl, fun h => absurd h (by decide)⟩
end Go.Proofs.YtokjhbmmdmeafaaGreat
