/- Pruned: Ge. -/
import Derived.Test.YtokjhbmmdmeafaaGreatQGc
set_option linter.unusedSimpArgs false
set_option linter.unusedVariables false
namespace Go.Proofs.YtokjhbmmdmeafaaGreat
open Go.Ev Go.RowKit
open Tryz
def hpC (c : Nat) (r : LU0) : List Ch := [.c (.int .u8 (c : Int)), .y r]
def hv (c : Nat) (r : LU0) (i : Nat) : Nat := ((c :: r.map UInt8.toNat)[i]?).getD 0
theorem UY (c : Nat) (r : LU0) : flat (hpC c r) = (c :: r.map UInt8.toNat).map (fun v => Value.int .u8 ((v : Nat) : Int)) := by
 unfold hpC
 rw [F9]
 simp only [List.map_cons, List.map_map]
 rfl
theorem TI (c : Nat) (r : LU0) (i : Nat) (h : i < r.length + 1) : (flat (hpC c r))[i * 1]? = some (.int .u8 ((hv c r i : Nat) : Int)) := by
 rw [UY, Nat.mul_one, List.getElem?_map]
 have hl : i < (c :: r.map UInt8.toNat).length := by simpa using h
 unfold hv
 rw [List.getElem?_eq_getElem hl]
 rfl
theorem VX : ∀ b : Fin 256, bits BinOp.and IntKind.u8 ((b.val : Nat) : Int) 224 = ((b.val / 32 * 32 : Nat) : Int) := by decide +kernel
theorem J7 : ∀ b : Fin 256, bits BinOp.andNot IntKind.u8 ((b.val : Nat) : Int) 224 = ((b.val % 32 : Nat) : Int) := by decide +kernel
theorem Bu (b : UInt8) (f : Nat) (h : b.toNat / 32 * 32 = f) : bits BinOp.and IntKind.u8 ((b.toNat : Nat) : Int) 224 = ((f : Nat) : Int) := by
 rw [← h]; exact VX ⟨b.toNat, UInt8.toNat_lt b⟩
theorem Po (b : UInt8) : bits BinOp.andNot IntKind.u8 ((b.toNat : Nat) : Int) 224 = ((b.toNat % 32 : Nat) : Int) := J7 ⟨b.toNat, UInt8.toNat_lt b⟩
theorem Jc (b : UInt8) (r : LU0) : (flat [.c (.int .u8 ((b.toNat % 32 : Nat) : Int)), .y r]).take (ofL (b :: r)).size = (ofL (UInt8.ofNat (b.toNat % 32) :: r)).data.toList.map qK /\ (ofL (b :: r)).size = (ofL (UInt8.ofNat (b.toNat % 32) :: r)).size := by
 refine ⟨?_, rfl⟩
 rw [Qj]
 show _ = qK (UInt8.ofNat (b.toNat % 32)) :: r.map qK
 congr 1
 unfold qK
 congr 1
 rw [UInt8.toNat_ofNat']
 omega
def hdI (f c : Nat) (r : LU0) (z : Int) : LState := { n := 70, sl := [(7, .v (.int .u8 (f : Int))), (8, .sx 42 (r.length + 1)), (58, .sx 42 (r.length + 1)), (59, vi0 ((r.length + 1 : Nat) : Int)), (60, vi0 z)], hp := [(42, .gr (hpC c r) 5 1)] }
def hdZ (f c : Nat) (r : LU0) : LState := { n := 70, sl := [(7, .v (.int .u8 (f : Int))), (8, .sx 42 (r.length + 1))], hp := [(42, .gr (hpC c r) 5 1)] }
def hdE : LState := { n := 70, sl := [(4, .v (.string (ofL []))), (5, .v (.int .u8 0)), (6, vi0 33)], hp := [] }
abbrev K8 (a : AA) (e : Ex) (b : AA) : Prop := Sound prog 0 false (pS f57 0) a e b
theorem IK (f c : Nat) (r : LU0) (i : Nat) (hi : i < r.length + 1) (hm : r.length + 1 <= 1000) (hz : hv c r i = 0) : K8 (hdI f c r (i : Int)).aa .normal (hdI f c r ((i + 1 : Nat) : Int)).aa := by
 have hs := pR (P := prog) (X := qC _) (env := []) trivial (n := 0) (os := oL [(56, wT), (57, rO 9 i), (58, { ch := 0, hi := fun _ => 0, ru := 8, av := fun _ => .v (.int .u8 0) })]) (fb := 0) (rd := false) (c := (pS f57 0)) (k := 56) (I := hdI f c r (i : Int)) (sk := [7, 8, 58, 59, 60]) (hk := [42]) (lk := []) (ex := .normal)
  (L := hdI f c r (IntKind.i64.wrap ((i : Int) + 1))) (by kernel_rfl) (ai (show (flat (hpC c r))[i * 1]? = some (.int .u8 0) from by rw [TI c r i hi, hz]; rfl) (ai (show (i : Int) = ((i : Nat) : Int) /\ i < r.length + 1 from ⟨rfl, hi⟩) (ai (show decide ((i : Int) < ((r.length + 1 : Nat) : Int)) = true from decide_eq_true (by omega)) tt0)))
 rw [show IntKind.i64.wrap ((i : Int) + 1) = ((i + 1 : Nat) : Int) by rw [p6]; omega] at hs
 exact hs
theorem Rb {c : Code} {I L : LState} {ex : Ex} {b : Prop} (o : LO0) (k : Nat) (sk hk : List Nat) (hb : b) (h : uW prog (qC _) [] 0 (oL o) 0 false c k I sk hk [] = some (ex, L, b) := by kernel_rfl) : Sound prog 0 false c I.aa ex L.aa := pR (P := prog) (X := qC _) (env := []) trivial h hb
theorem aaT (f c : Nat) (r : LU0) : K8 (hdI f c r ((r.length + 1 : Nat) : Int)).aa (.exit 0) (hdZ f c r).aa :=
 Rb [(56, wF)] 56 [7, 8] [42] (ai (show decide (((r.length + 1 : Nat) : Int) < ((r.length + 1 : Nat) : Int)) = false from decide_eq_false (by omega)) tt0)
theorem aai (f c : Nat) (r : LU0) (i v : Nat) (hi : i < r.length + 1) (hw : hv c r i = v) (hz : v ≠ 0) : K8 (hdI f c r (i : Int)).aa .ret hdE.aa :=
 Rb [(56, wT), (57, rO 9 i), (58, { ch := 0, hi := fun _ => 0, ru := 8, av := fun _ => .v (.int .u8 ((v : Nat) : Int)) }), (61, wT)] 56 [4, 5, 6] [] (ai (show (((v : Nat) : Int) != 0) = true from by simp; omega) (ai (show (flat (hpC c r))[i * 1]? = some (.int .u8 ((v : Nat) : Int)) from by rw [TI c r i hi, hw]) (ai (show (i : Int) = ((i : Nat) : Int) /\ i < r.length + 1 from ⟨rfl, hi⟩) (ai (show decide ((i : Int) < ((r.length + 1 : Nat) : Int)) = true from decide_eq_true (by omega)) tt0))))
theorem B1 (f c : Nat) (r : LU0) (hm : r.length + 1 <= 1000) (hz : ∀ i, i < r.length + 1 -> hv c r i = 0) : Sound prog 0 false (.loop (pS f57 0)) (hdI f c r 0).aa (.exit 0) (hdZ f c r).aa := by
 refine qk (m := fun y : { i : Nat // i <= r.length + 1 } => r.length + 1 - y.val) (fun y => hdI f c r (y.val : Int)) (by simp) (fun y => ?_) ⟨0, by omega⟩
 obtain ⟨i, hi⟩ := y
 by_cases h : i < r.length + 1
 ·exact .inl ⟨⟨i + 1, h⟩, by show r.length + 1 - (i + 1) < r.length + 1 - i; omega, IK f c r i h hm (hz i h)⟩
 ·have e : i = r.length + 1 := by omega
  subst e
  exact .inr (aaT f c r)
theorem Lh (f c : Nat) (r : LU0) (hm : r.length + 1 <= 1000) (j : Nat) (hj : j < r.length + 1) (hz : hv c r j ≠ 0) : Sound prog 0 false (.loop (pS f57 0)) (hdI f c r 0).aa .ret hdE.aa := by
 refine qk (m := fun y : { i : Nat // i <= j } => j - y.val) (fun y => hdI f c r (y.val : Int)) (by simp) (fun y => ?_) ⟨0, by omega⟩
 obtain ⟨i, hi⟩ := y
 by_cases h : hv c r i = 0
 ·have e : i ≠ j := fun e => hz (e ▸ h)
  exact .inl ⟨⟨i + 1, by omega⟩, by show j - (i + 1) < j - i; omega, IK f c r i (by omega) hm h⟩
 ·exact .inr (aai f c r i _ (by omega) rfl h)
abbrev Rt : AV := .tp [.v (.string (ofL [])), .v (.int .u8 0), vi0 3]
theorem qm {a : List XV} {r : AV} {b : Prop} (o : Nat -> Ora) (h : fnA prog (qC _) [] 0 o f57 a = some (r, b)) (hv : ∃ v, r.val? = some v) (hb : b) : Gives prog 57 a r := pL (P := prog) (X := qC _) (env := []) trivial func57 0 o h hv hb
theorem Jq (l : LU0) (h1 : l.length ≠ 48) (h2 : l.length ≠ 96) : Gives prog 57 [.t (.v (.string (ofL l))), .t (vi0 48)] Rt :=
 qm (oL [(6, wT), (12, wT)]) (by kernel_rfl) ⟨_, rfl⟩ (ai (show (((l.length : Nat) : Int) != 96) = true from by simp; omega) (ai (show (((l.length : Nat) : Int) != 48) = true from by simp; omega) tt0))
theorem BH (b : UInt8) (r : LU0) (hL : (ofL (b :: r)).size = 48) : ((((ofL (b :: r)).size : Nat) : Int) == 48) = true := by rw [hL]; decide
theorem LW (b : UInt8) (hf : b.toNat / 32 * 32 = 0) : bits BinOp.and IntKind.u8 ((b.toNat : Nat) : Int) 224 = ((0 : Nat) : Int) := Bu b 0 hf
theorem aeA (b : UInt8) (r : LU0) (hL : (ofL (b :: r)).size = 48) : (0 : Int) <= 0 /\ (0 : Int) < (ofL (b :: r)).size /\ ((ofL (b :: r))[(0 : Int).toNat]?.getD 0).toNat = b.toNat := ⟨by decide, by rw [hL]; decide, by rw [B2]; rfl⟩
theorem aeI (b : UInt8) (r : LU0) (hL : (ofL (b :: r)).size = 48) : ((((ofL (b :: r)).size : Nat) : Int) != 48) = false := by rw [hL]; decide
abbrev sM : AV := .tp [.v (.string (ofL [])), .v (.int .u8 0), vi0 32]
def xF {b : UInt8} {r : LU0} (hL : (ofL (b :: r)).size = 48) := PLift.up (ai (aeA b r hL) (ai (aeI b r hL) tt0))
def uP : Ora := { ch := 1, hi := fun _ => 0 }
theorem Oe (b : UInt8) (r : LU0) (hL : (ofL (b :: r)).size = 48) (hf : b.toNat / 32 * 32 = 0) : Gives prog 57 [.t (.v (.string (ofL (b :: r)))), .t (vi0 48)] sM :=
 qm (oL [(6, wF), (15, rO 1 b.toNat), (16, uP), (24, wT)]) (by kernel_rfl) ⟨_, rfl⟩ (ai (BH b r hL) (ai (LW b hf)
   (xF hL).down))
theorem Mr (b : UInt8) (hf : b.toNat / 32 * 32 = 32) : bits BinOp.and IntKind.u8 ((b.toNat : Nat) : Int) 224 = ((32 : Nat) : Int) := Bu b 32 hf
def F3 : Nat × Ora := (16, { ch := 1, hi := fun _ => 32 })
theorem M7 (b : UInt8) (r : LU0) (hL : (ofL (b :: r)).size = 48) (hf : b.toNat / 32 * 32 = 32) : Gives prog 57 [.t (.v (.string (ofL (b :: r)))), .t (vi0 48)] sM :=
 qm (oL [(6, wF), (15, rO 1 b.toNat), F3, (24, wT)]) (by kernel_rfl) ⟨_, rfl⟩ (ai (BH b r hL) (ai (Mr b hf)
   (xF hL).down))
theorem Mu (b : UInt8) (hf : b.toNat / 32 * 32 = 64) : bits BinOp.and IntKind.u8 ((b.toNat : Nat) : Int) 224 = ((64 : Nat) : Int) := Bu b 64 hf
def FI : Nat × Ora := (16, { ch := 1, hi := fun _ => 64 })
theorem Mw (b : UInt8) (r : LU0) (hL : (ofL (b :: r)).size = 48) (hf : b.toNat / 32 * 32 = 64) : Gives prog 57 [.t (.v (.string (ofL (b :: r)))), .t (vi0 48)] sM :=
 qm (oL [(6, wF), (15, rO 1 b.toNat), FI, (24, wT)]) (by kernel_rfl) ⟨_, rfl⟩ (ai (BH b r hL) (ai (Mu b hf)
   (xF hL).down))
theorem LB (b : UInt8) (hf : b.toNat / 32 * 32 = 96) : bits BinOp.and IntKind.u8 ((b.toNat : Nat) : Int) 224 = ((96 : Nat) : Int) := Bu b 96 hf
def za : Ora := { ch := 1, hi := fun _ => 96 }
theorem Ot (b : UInt8) (r : LU0) (hL : (ofL (b :: r)).size = 48) (hf : b.toNat / 32 * 32 = 96) : Gives prog 57 [.t (.v (.string (ofL (b :: r)))), .t (vi0 48)] sM :=
 qm (oL [(6, wF), (15, rO 1 b.toNat), (16, za), (24, wT)]) (by kernel_rfl) ⟨_, rfl⟩ (ai (BH b r hL) (ai (LB b hf)
   (xF hL).down))
theorem yV (b : UInt8) (r : LU0) : (flat [.c (.int .u8 ((b.toNat % 32 : Nat) : Int)), .y r]).take (ofL (b :: r)).size = (ofL (UInt8.ofNat (b.toNat % 32) :: r)).data.toList.map qK /\ (ofL (b :: r)).size = (ofL (UInt8.ofNat (b.toNat % 32) :: r)).size := Jc b r
theorem tc (b : UInt8) (r : LU0) : (0 : Int) = ((0 : Nat) : Int) /\ 0 < (ofL (b :: r)).size := ⟨rfl, Nat.succ_pos _⟩
theorem yZ (b : UInt8) : bits BinOp.andNot IntKind.u8 ((b.toNat : Nat) : Int) 224 = ((b.toNat % 32 : Nat) : Int) := Po b
theorem vH (b : UInt8) (r : LU0) : flat [.c (qK b), .y r] = (ofL (b :: r)).data.toList.map qK := F9 _ _
theorem Fe (b : UInt8) (hf : b.toNat / 32 * 32 = 128) : bits BinOp.and IntKind.u8 ((b.toNat : Nat) : Int) 224 = ((128 : Nat) : Int) := Bu b 128 hf
def DB (b : UInt8) (r : LU0) : Nat × Ora := (42, { ch := 0, hi := fun _ => 0, ex := 2, cs := fun _ => [.c (qK b), .y r] })
def Ij (b : UInt8) (r : LU0) : Ora := { ch := 0, hi := fun _ => 0, ru := 10, av := fun _ => .v (.string (ofL (UInt8.ofNat (b.toNat % 32) :: r))) }
def zi (b : UInt8) : Nat × Ora := (47, { ch := 1, hi := fun _ => b.toNat % 32 })
def zn : Nat × Ora := (49, { ch := 0, hi := fun _ => 0, ex := 3 })
def Jr : Nat × Ora := (16, { ch := 1, hi := fun _ => 128 })
def R8 (b : UInt8) (r : LU0) : LO0 := [(6, wF), (15, rO 1 b.toNat), Jr, (24, wT), (DB b r), (45, rO 9 0), (zi b), (48, rO 9 0), zn, (54, (Ij b r))]
theorem OL (b : UInt8) (r : LU0) (hL : (ofL (b :: r)).size = 48) (hf : b.toNat / 32 * 32 = 128) : Gives prog 57 [.t (.v (.string (ofL (b :: r)))), .t (vi0 48)] (.tp [.v (.string (ofL (UInt8.ofNat (b.toNat % 32) :: r))), .v (.int .u8 128), vi0 0]) :=
 qm (oL (R8 b r)) (by kernel_rfl) ⟨_, rfl⟩ (ai (yV b r) (ai (tc b r) (ai (yZ b) (ai (tc b r) (ai (vH b r) (ai (BH b r hL) (ai (Fe b hf)
   (xF hL).down)))))))
theorem Gn (b : UInt8) (hf : b.toNat / 32 * 32 = 160) : bits BinOp.and IntKind.u8 ((b.toNat : Nat) : Int) 224 = ((160 : Nat) : Int) := Bu b 160 hf
def Kz : Nat × Ora := (16, { ch := 1, hi := fun _ => 160 })
def Rd (b : UInt8) (r : LU0) : LO0 := [(6, wF), (15, rO 1 b.toNat), Kz, (24, wT), (DB b r), (45, rO 9 0), (zi b), (48, rO 9 0), zn, (54, (Ij b r))]
theorem Ol (b : UInt8) (r : LU0) (hL : (ofL (b :: r)).size = 48) (hf : b.toNat / 32 * 32 = 160) : Gives prog 57 [.t (.v (.string (ofL (b :: r)))), .t (vi0 48)] (.tp [.v (.string (ofL (UInt8.ofNat (b.toNat % 32) :: r))), .v (.int .u8 160), vi0 0]) :=
 qm (oL (Rd b r)) (by kernel_rfl) ⟨_, rfl⟩ (ai (yV b r) (ai (tc b r) (ai (yZ b) (ai (tc b r) (ai (vH b r) (ai (BH b r hL) (ai (Gn b hf)
   (xF hL).down)))))))
theorem Fi (b : UInt8) (r : LU0) : some (hdI 192 (b.toNat % 32) r 0) = some (hdI 192 (b.toNat % 32) r 0) := rfl
theorem Fy (b : UInt8) (hf : b.toNat / 32 * 32 = 192) : bits BinOp.and IntKind.u8 ((b.toNat : Nat) : Int) 224 = ((192 : Nat) : Int) := Bu b 192 hf
def Gk : Nat × Ora := (16, { ch := 1, hi := fun _ => 192 })
def O5 (b : UInt8) (r : LU0) : LO0 := [(6, wF), (15, rO 1 b.toNat), Gk, (24, wT), (DB b r), (45, rO 9 0), (zi b), (48, rO 9 0), zn, (56, lpO { I := hdI 192 (b.toNat % 32) r 0, ex := .exit 0, E := hdZ 192 (b.toNat % 32) r, fr := 57 }), (58, (Ij b r))]
def Rk {b : UInt8} {r : LU0} (hL : (ofL (b :: r)).size = 48) (hf : b.toNat / 32 * 32 = 192) := PLift.up (ai (tc b r) (ai (yZ b) (ai (tc b r) (ai (vH b r) (ai (BH b r hL) (ai (Fy b hf)
   (xF hL).down))))))
theorem KJ (b : UInt8) (r : LU0) (hL : (ofL (b :: r)).size = 48) (hf : b.toNat / 32 * 32 = 192) (hz : ∀ i, i < r.length + 1 -> hv (b.toNat % 32) r i = 0) : Gives prog 57 [.t (.v (.string (ofL (b :: r)))), .t (vi0 48)] (.tp [.v (.string (ofL (UInt8.ofNat (b.toNat % 32) :: r))), .v (.int .u8 192), vi0 0]) :=
 qm (oL (O5 b r)) (by kernel_rfl) ⟨_, rfl⟩ (ai (yV b r) (ai (Fi b r) (ai (B1 192 (b.toNat % 32) r (show r.length + 1 <= 1000 from by have h : r.length + 1 = 48 := hL; omega) hz)
   (Rk hL hf).down)))
def RT (b : UInt8) (r : LU0) : LO0 := [(6, wF), (15, rO 1 b.toNat), Gk, (24, wT), (DB b r), (45, rO 9 0), (zi b), (48, rO 9 0), zn, (56, lpO { I := hdI 192 (b.toNat % 32) r 0, ex := .ret, E := hdE, fr := 57 })]
abbrev GH : AV := .tp [.v (.string (ofL [])), .v (.int .u8 0), vi0 33]
theorem KX (b : UInt8) (r : LU0) (hL : (ofL (b :: r)).size = 48) (hf : b.toNat / 32 * 32 = 192) (j : Nat) (hj : j < r.length + 1) (hz : hv (b.toNat % 32) r j ≠ 0) : Gives prog 57 [.t (.v (.string (ofL (b :: r)))), .t (vi0 48)] GH :=
 qm (oL (RT b r)) (by kernel_rfl) ⟨_, rfl⟩ (ai (Fi b r) (ai (Lh 192 (b.toNat % 32) r (show r.length + 1 <= 1000 from by have h : r.length + 1 = 48 := hL; omega) j hj hz)
   (Rk hL hf).down))
theorem GQ (b : UInt8) (hf : b.toNat / 32 * 32 = 224) : bits BinOp.and IntKind.u8 ((b.toNat : Nat) : Int) 224 = ((224 : Nat) : Int) := Bu b 224 hf
def FF : Nat × Ora := (16, { ch := 1, hi := fun _ => 224 })
theorem MN (b : UInt8) (r : LU0) (hL : (ofL (b :: r)).size = 48) (hf : b.toNat / 32 * 32 = 224) : Gives prog 57 [.t (.v (.string (ofL (b :: r)))), .t (vi0 48)] sM :=
 qm (oL [(6, wF), (15, rO 1 b.toNat), FF, (24, wT)]) (by kernel_rfl) ⟨_, rfl⟩ (ai (BH b r hL) (ai (GQ b hf)
   (xF hL).down))
theorem xh (b : UInt8) (r : LU0) (hL : (ofL (b :: r)).size = 96) : ((((ofL (b :: r)).size : Nat) : Int) == 48) = false := by rw [hL]; decide
theorem R7 (b : UInt8) (r : LU0) (hL : (ofL (b :: r)).size = 96) : (0 : Int) <= 0 /\ (0 : Int) < (ofL (b :: r)).size /\ ((ofL (b :: r))[(0 : Int).toNat]?.getD 0).toNat = b.toNat := ⟨by decide, by rw [hL]; decide, by rw [B2]; rfl⟩
theorem Ra (b : UInt8) (r : LU0) (hL : (ofL (b :: r)).size = 96) : ((((ofL (b :: r)).size : Nat) : Int) != 96) = false := by rw [hL]; decide
theorem Ym (b : UInt8) (r : LU0) (hL : (ofL (b :: r)).size = 96) : ((((ofL (b :: r)).size : Nat) : Int) != 48) = true := by rw [hL]; decide
def Bn {b : UInt8} {r : LU0} (hL : (ofL (b :: r)).size = 96) := PLift.up (ai (R7 b r hL) (ai (Ra b r hL) (ai (Ym b r hL) tt0)))
abbrev RZ (b : UInt8) (r : LU0) := oL [(6, wT), (12, wF), (15, rO 1 b.toNat), (16, uP), (24, wF), (DB b r), (45, rO 9 0), (zi b), (48, rO 9 0), zn, (54, (Ij b r))]
theorem NY (b : UInt8) (r : LU0) (hL : (ofL (b :: r)).size = 96) (hf : b.toNat / 32 * 32 = 0) : Gives prog 57 [.t (.v (.string (ofL (b :: r)))), .t (vi0 48)] (.tp [.v (.string (ofL (UInt8.ofNat (b.toNat % 32) :: r))), .v (.int .u8 0), vi0 0]) :=
 qm (RZ b r) (by kernel_rfl) ⟨_, rfl⟩ (ai (yV b r) (ai (tc b r) (ai (yZ b) (ai (tc b r) (ai (vH b r) (ai (xh b r hL) (ai (LW b hf)
   (Bn hL).down)))))))
def uf (b : UInt8) : LO0 := [(6, wT), (12, wF), (15, rO 1 b.toNat)]
theorem MY (b : UInt8) (r : LU0) (hL : (ofL (b :: r)).size = 96) (hf : b.toNat / 32 * 32 = 32) : Gives prog 57 [.t (.v (.string (ofL (b :: r)))), .t (vi0 48)] sM :=
 qm (oL ((uf b) ++ [F3, (24, wF)])) (by kernel_rfl) ⟨_, rfl⟩ (ai (xh b r hL) (ai (Mr b hf)
   (Bn hL).down))
theorem FG (b : UInt8) (r : LU0) : some (hdI 64 (b.toNat % 32) r 0) = some (hdI 64 (b.toNat % 32) r 0) := rfl
def P8 (b : UInt8) (r : LU0) : LO0 := [(6, wT), (12, wF), (15, rO 1 b.toNat), FI, (24, wF), (DB b r), (45, rO 9 0), (zi b), (48, rO 9 0), zn, (56, lpO { I := hdI 64 (b.toNat % 32) r 0, ex := .exit 0, E := hdZ 64 (b.toNat % 32) r, fr := 57 }), (58, (Ij b r))]
def OR {b : UInt8} {r : LU0} (hL : (ofL (b :: r)).size = 96) (hf : b.toNat / 32 * 32 = 64) := PLift.up (ai (tc b r) (ai (yZ b) (ai (tc b r) (ai (vH b r) (ai (xh b r hL) (ai (Mu b hf)
   (Bn hL).down))))))
theorem Jz (b : UInt8) (r : LU0) (hL : (ofL (b :: r)).size = 96) (hf : b.toNat / 32 * 32 = 64) (hz : ∀ i, i < r.length + 1 -> hv (b.toNat % 32) r i = 0) : Gives prog 57 [.t (.v (.string (ofL (b :: r)))), .t (vi0 48)] (.tp [.v (.string (ofL (UInt8.ofNat (b.toNat % 32) :: r))), .v (.int .u8 64), vi0 0]) :=
 qm (oL (P8 b r)) (by kernel_rfl) ⟨_, rfl⟩ (ai (yV b r) (ai (FG b r) (ai (B1 64 (b.toNat % 32) r (show r.length + 1 <= 1000 from by have h : r.length + 1 = 96 := hL; omega) hz)
   (OR hL hf).down)))
def T9 (b : UInt8) (r : LU0) : LO0 := [(6, wT), (12, wF), (15, rO 1 b.toNat), FI, (24, wF), (DB b r), (45, rO 9 0), (zi b), (48, rO 9 0), zn, (56, lpO { I := hdI 64 (b.toNat % 32) r 0, ex := .ret, E := hdE, fr := 57 })]
theorem JO (b : UInt8) (r : LU0) (hL : (ofL (b :: r)).size = 96) (hf : b.toNat / 32 * 32 = 64) (j : Nat) (hj : j < r.length + 1) (hz : hv (b.toNat % 32) r j ≠ 0) : Gives prog 57 [.t (.v (.string (ofL (b :: r)))), .t (vi0 48)] GH :=
 qm (oL (T9 b r)) (by kernel_rfl) ⟨_, rfl⟩ (ai (FG b r) (ai (Lh 64 (b.toNat % 32) r (show r.length + 1 <= 1000 from by have h : r.length + 1 = 96 := hL; omega) j hj hz)
   (OR hL hf).down))
theorem OE (b : UInt8) (r : LU0) (hL : (ofL (b :: r)).size = 96) (hf : b.toNat / 32 * 32 = 96) : Gives prog 57 [.t (.v (.string (ofL (b :: r)))), .t (vi0 48)] sM :=
 qm (oL ((uf b) ++ [(16, za), (24, wF)])) (by kernel_rfl) ⟨_, rfl⟩ (ai (xh b r hL) (ai (LB b hf)
   (Bn hL).down))
theorem N5 (b : UInt8) (r : LU0) (hL : (ofL (b :: r)).size = 96) (hf : b.toNat / 32 * 32 = 128) : Gives prog 57 [.t (.v (.string (ofL (b :: r)))), .t (vi0 48)] sM :=
 qm (oL ((uf b) ++ [Jr, (24, wF)])) (by kernel_rfl) ⟨_, rfl⟩ (ai (xh b r hL) (ai (Fe b hf)
   (Bn hL).down))
theorem OM (b : UInt8) (r : LU0) (hL : (ofL (b :: r)).size = 96) (hf : b.toNat / 32 * 32 = 160) : Gives prog 57 [.t (.v (.string (ofL (b :: r)))), .t (vi0 48)] sM :=
 qm (oL ((uf b) ++ [Kz, (24, wF)])) (by kernel_rfl) ⟨_, rfl⟩ (ai (xh b r hL) (ai (Gn b hf)
   (Bn hL).down))
theorem MG (b : UInt8) (r : LU0) (hL : (ofL (b :: r)).size = 96) (hf : b.toNat / 32 * 32 = 192) : Gives prog 57 [.t (.v (.string (ofL (b :: r)))), .t (vi0 48)] sM :=
 qm (oL ((uf b) ++ [Gk, (24, wF)])) (by kernel_rfl) ⟨_, rfl⟩ (ai (xh b r hL) (ai (Fy b hf)
   (Bn hL).down))
theorem Nr (b : UInt8) (r : LU0) (hL : (ofL (b :: r)).size = 96) (hf : b.toNat / 32 * 32 = 224) : Gives prog 57 [.t (.v (.string (ofL (b :: r)))), .t (vi0 48)] sM :=
 qm (oL ((uf b) ++ [FF, (24, wF)])) (by kernel_rfl) ⟨_, rfl⟩ (ai (xh b r hL) (ai (GQ b hf)
   (Bn hL).down))
theorem KL (l : LU0) (h1 : l.length ≠ 96) (h2 : l.length ≠ 192) : Gives prog 57 [.t (.v (.string (ofL l))), .t (vi0 96)] Rt :=
 qm (oL [(6, wT), (12, wT)]) (by kernel_rfl) ⟨_, rfl⟩ (ai (show (((l.length : Nat) : Int) != 192) = true from by simp; omega) (ai (show (((l.length : Nat) : Int) != 96) = true from by simp; omega) tt0))
theorem xN (b : UInt8) (r : LU0) (hL : (ofL (b :: r)).size = 96) : ((((ofL (b :: r)).size : Nat) : Int) == 96) = true := by rw [hL]; decide
def xg {b : UInt8} {r : LU0} (hL : (ofL (b :: r)).size = 96) := PLift.up (ai (R7 b r hL) (ai (Ra b r hL) tt0))
theorem NQ (b : UInt8) (r : LU0) (hL : (ofL (b :: r)).size = 96) (hf : b.toNat / 32 * 32 = 0) : Gives prog 57 [.t (.v (.string (ofL (b :: r)))), .t (vi0 96)] sM :=
 qm (oL [(6, wF), (15, rO 1 b.toNat), (16, uP), (24, wT)]) (by kernel_rfl) ⟨_, rfl⟩ (ai (xN b r hL) (ai (LW b hf)
   (xg hL).down))
theorem ME (b : UInt8) (r : LU0) (hL : (ofL (b :: r)).size = 96) (hf : b.toNat / 32 * 32 = 32) : Gives prog 57 [.t (.v (.string (ofL (b :: r)))), .t (vi0 96)] sM :=
 qm (oL [(6, wF), (15, rO 1 b.toNat), F3, (24, wT)]) (by kernel_rfl) ⟨_, rfl⟩ (ai (xN b r hL) (ai (Mr b hf)
   (xg hL).down))
theorem OD (b : UInt8) (r : LU0) (hL : (ofL (b :: r)).size = 96) (hf : b.toNat / 32 * 32 = 64) : Gives prog 57 [.t (.v (.string (ofL (b :: r)))), .t (vi0 96)] sM :=
 qm (oL [(6, wF), (15, rO 1 b.toNat), FI, (24, wT)]) (by kernel_rfl) ⟨_, rfl⟩ (ai (xN b r hL) (ai (Mu b hf)
   (xg hL).down))
theorem Nl (b : UInt8) (r : LU0) (hL : (ofL (b :: r)).size = 96) (hf : b.toNat / 32 * 32 = 96) : Gives prog 57 [.t (.v (.string (ofL (b :: r)))), .t (vi0 96)] sM :=
 qm (oL [(6, wF), (15, rO 1 b.toNat), (16, za), (24, wT)]) (by kernel_rfl) ⟨_, rfl⟩ (ai (xN b r hL) (ai (LB b hf)
   (xg hL).down))
theorem NX (b : UInt8) (r : LU0) (hL : (ofL (b :: r)).size = 96) (hf : b.toNat / 32 * 32 = 128) : Gives prog 57 [.t (.v (.string (ofL (b :: r)))), .t (vi0 96)] (.tp [.v (.string (ofL (UInt8.ofNat (b.toNat % 32) :: r))), .v (.int .u8 128), vi0 0]) :=
 qm (oL (R8 b r)) (by kernel_rfl) ⟨_, rfl⟩ (ai (yV b r) (ai (tc b r) (ai (yZ b) (ai (tc b r) (ai (vH b r) (ai (xN b r hL) (ai (Fe b hf)
   (xg hL).down)))))))
theorem NJ (b : UInt8) (r : LU0) (hL : (ofL (b :: r)).size = 96) (hf : b.toNat / 32 * 32 = 160) : Gives prog 57 [.t (.v (.string (ofL (b :: r)))), .t (vi0 96)] (.tp [.v (.string (ofL (UInt8.ofNat (b.toNat % 32) :: r))), .v (.int .u8 160), vi0 0]) :=
 qm (oL (Rd b r)) (by kernel_rfl) ⟨_, rfl⟩ (ai (yV b r) (ai (tc b r) (ai (yZ b) (ai (tc b r) (ai (vH b r) (ai (xN b r hL) (ai (Gn b hf)
   (xg hL).down)))))))
def SD {b : UInt8} {r : LU0} (hL : (ofL (b :: r)).size = 96) (hf : b.toNat / 32 * 32 = 192) := PLift.up (ai (tc b r) (ai (yZ b) (ai (tc b r) (ai (vH b r) (ai (xN b r hL) (ai (Fy b hf)
   (xg hL).down))))))
theorem JC (b : UInt8) (r : LU0) (hL : (ofL (b :: r)).size = 96) (hf : b.toNat / 32 * 32 = 192) (hz : ∀ i, i < r.length + 1 -> hv (b.toNat % 32) r i = 0) : Gives prog 57 [.t (.v (.string (ofL (b :: r)))), .t (vi0 96)] (.tp [.v (.string (ofL (UInt8.ofNat (b.toNat % 32) :: r))), .v (.int .u8 192), vi0 0]) :=
 qm (oL (O5 b r)) (by kernel_rfl) ⟨_, rfl⟩ (ai (yV b r) (ai (Fi b r) (ai (B1 192 (b.toNat % 32) r (show r.length + 1 <= 1000 from by have h : r.length + 1 = 96 := hL; omega) hz)
   (SD hL hf).down)))
theorem KQ (b : UInt8) (r : LU0) (hL : (ofL (b :: r)).size = 96) (hf : b.toNat / 32 * 32 = 192) (j : Nat) (hj : j < r.length + 1) (hz : hv (b.toNat % 32) r j ≠ 0) : Gives prog 57 [.t (.v (.string (ofL (b :: r)))), .t (vi0 96)] GH :=
 qm (oL (RT b r)) (by kernel_rfl) ⟨_, rfl⟩ (ai (Fi b r) (ai (Lh 192 (b.toNat % 32) r (show r.length + 1 <= 1000 from by have h : r.length + 1 = 96 := hL; omega) j hj hz)
   (SD hL hf).down))
theorem NO (b : UInt8) (r : LU0) (hL : (ofL (b :: r)).size = 96) (hf : b.toNat / 32 * 32 = 224) : Gives prog 57 [.t (.v (.string (ofL (b :: r)))), .t (vi0 96)] sM :=
 qm (oL [(6, wF), (15, rO 1 b.toNat), FF, (24, wT)]) (by kernel_rfl) ⟨_, rfl⟩ (ai (xN b r hL) (ai (GQ b hf)
   (xg hL).down))
theorem xB (b : UInt8) (r : LU0) (hL : (ofL (b :: r)).size = 192) : ((((ofL (b :: r)).size : Nat) : Int) == 96) = false := by rw [hL]; decide
theorem Yi (b : UInt8) (r : LU0) (hL : (ofL (b :: r)).size = 192) : (0 : Int) <= 0 /\ (0 : Int) < (ofL (b :: r)).size /\ ((ofL (b :: r))[(0 : Int).toNat]?.getD 0).toNat = b.toNat := ⟨by decide, by rw [hL]; decide, by rw [B2]; rfl⟩
theorem aab (b : UInt8) (r : LU0) (hL : (ofL (b :: r)).size = 192) : ((((ofL (b :: r)).size : Nat) : Int) != 192) = false := by rw [hL]; decide
theorem Yl (b : UInt8) (r : LU0) (hL : (ofL (b :: r)).size = 192) : ((((ofL (b :: r)).size : Nat) : Int) != 96) = true := by rw [hL]; decide
def BJ {b : UInt8} {r : LU0} (hL : (ofL (b :: r)).size = 192) := PLift.up (ai (Yi b r hL) (ai (aab b r hL) (ai (Yl b r hL) tt0)))
theorem NH (b : UInt8) (r : LU0) (hL : (ofL (b :: r)).size = 192) (hf : b.toNat / 32 * 32 = 0) : Gives prog 57 [.t (.v (.string (ofL (b :: r)))), .t (vi0 96)] (.tp [.v (.string (ofL (UInt8.ofNat (b.toNat % 32) :: r))), .v (.int .u8 0), vi0 0]) :=
 qm (RZ b r) (by kernel_rfl) ⟨_, rfl⟩ (ai (yV b r) (ai (tc b r) (ai (yZ b) (ai (tc b r) (ai (vH b r) (ai (xB b r hL) (ai (LW b hf)
   (BJ hL).down)))))))
theorem NK (b : UInt8) (r : LU0) (hL : (ofL (b :: r)).size = 192) (hf : b.toNat / 32 * 32 = 32) : Gives prog 57 [.t (.v (.string (ofL (b :: r)))), .t (vi0 96)] sM :=
 qm (oL ((uf b) ++ [F3, (24, wF)])) (by kernel_rfl) ⟨_, rfl⟩ (ai (xB b r hL) (ai (Mr b hf)
   (BJ hL).down))
def SY {b : UInt8} {r : LU0} (hL : (ofL (b :: r)).size = 192) (hf : b.toNat / 32 * 32 = 64) := PLift.up (ai (tc b r) (ai (yZ b) (ai (tc b r) (ai (vH b r) (ai (xB b r hL) (ai (Mu b hf)
   (BJ hL).down))))))
theorem Ks (b : UInt8) (r : LU0) (hL : (ofL (b :: r)).size = 192) (hf : b.toNat / 32 * 32 = 64) (hz : ∀ i, i < r.length + 1 -> hv (b.toNat % 32) r i = 0) : Gives prog 57 [.t (.v (.string (ofL (b :: r)))), .t (vi0 96)] (.tp [.v (.string (ofL (UInt8.ofNat (b.toNat % 32) :: r))), .v (.int .u8 64), vi0 0]) :=
 qm (oL (P8 b r)) (by kernel_rfl) ⟨_, rfl⟩ (ai (yV b r) (ai (FG b r) (ai (B1 64 (b.toNat % 32) r (show r.length + 1 <= 1000 from by have h : r.length + 1 = 192 := hL; omega) hz)
   (SY hL hf).down)))
theorem JL (b : UInt8) (r : LU0) (hL : (ofL (b :: r)).size = 192) (hf : b.toNat / 32 * 32 = 64) (j : Nat) (hj : j < r.length + 1) (hz : hv (b.toNat % 32) r j ≠ 0) : Gives prog 57 [.t (.v (.string (ofL (b :: r)))), .t (vi0 96)] GH :=
 qm (oL (T9 b r)) (by kernel_rfl) ⟨_, rfl⟩ (ai (FG b r) (ai (Lh 64 (b.toNat % 32) r (show r.length + 1 <= 1000 from by have h : r.length + 1 = 192 := hL; omega) j hj hz)
   (SY hL hf).down))
theorem NF (b : UInt8) (r : LU0) (hL : (ofL (b :: r)).size = 192) (hf : b.toNat / 32 * 32 = 96) : Gives prog 57 [.t (.v (.string (ofL (b :: r)))), .t (vi0 96)] sM :=
 qm (oL ((uf b) ++ [(16, za), (24, wF)])) (by kernel_rfl) ⟨_, rfl⟩ (ai (xB b r hL) (ai (LB b hf)
   (BJ hL).down))
theorem MA (b : UInt8) (r : LU0) (hL : (ofL (b :: r)).size = 192) (hf : b.toNat / 32 * 32 = 128) : Gives prog 57 [.t (.v (.string (ofL (b :: r)))), .t (vi0 96)] sM :=
 qm (oL ((uf b) ++ [Jr, (24, wF)])) (by kernel_rfl) ⟨_, rfl⟩ (ai (xB b r hL) (ai (Fe b hf)
   (BJ hL).down))
theorem Nu (b : UInt8) (r : LU0) (hL : (ofL (b :: r)).size = 192) (hf : b.toNat / 32 * 32 = 160) : Gives prog 57 [.t (.v (.string (ofL (b :: r)))), .t (vi0 96)] sM :=
 qm (oL ((uf b) ++ [Kz, (24, wF)])) (by kernel_rfl) ⟨_, rfl⟩ (ai (xB b r hL) (ai (Gn b hf)
   (BJ hL).down))
theorem OC (b : UInt8) (r : LU0) (hL : (ofL (b :: r)).size = 192) (hf : b.toNat / 32 * 32 = 192) : Gives prog 57 [.t (.v (.string (ofL (b :: r)))), .t (vi0 96)] sM :=
 qm (oL ((uf b) ++ [Gk, (24, wF)])) (by kernel_rfl) ⟨_, rfl⟩ (ai (xB b r hL) (ai (Fy b hf)
   (BJ hL).down))
theorem Ou (b : UInt8) (r : LU0) (hL : (ofL (b :: r)).size = 192) (hf : b.toNat / 32 * 32 = 224) : Gives prog 57 [.t (.v (.string (ofL (b :: r)))), .t (vi0 96)] sM :=
 qm (oL ((uf b) ++ [FF, (24, wF)])) (by kernel_rfl) ⟨_, rfl⟩ (ai (xB b r hL) (ai (GQ b hf)
   (BJ hL).down))
theorem QU (b : UInt8) (r : LU0) : (pJ (b :: r)).map UInt8.toNat = b.toNat % 32 :: r.map UInt8.toNat := by
 show (UInt8.ofNat (b.toNat % 32)).toNat :: r.map UInt8.toNat = _
 rw [UInt8.toNat_ofNat', show b.toNat % 32 % 2 ^ 8 = b.toNat % 32 by omega]
theorem xL (b : UInt8) (r : LU0) : sP (pJ (b :: r)) ↔ ∀ i, i < r.length + 1 -> hv (b.toNat % 32) r i = 0 := by
 unfold hv
 rw [← QU]
 have hl : (pJ (b :: r)).length = r.length + 1 := rfl
 constructor
 ·intro h i hi
  have hi' : i < (pJ (b :: r)).length := by omega
  rw [List.getElem?_map, List.getElem?_eq_getElem hi', h _ (List.getElem_mem hi')]
  rfl
 ·intro h x hx
  obtain ⟨i, hi, rfl⟩ := List.mem_iff_getElem.1 hx
  have h1 := h i (by omega)
  rw [List.getElem?_map, List.getElem?_eq_getElem hi] at h1
  exact UInt8.toNat_inj.1 h1
theorem IN (b : UInt8) (r : LU0) (h : ¬ sP (pJ (b :: r))) : ∃ j, j < r.length + 1 /\ hv (b.toNat % 32) r j ≠ 0 := by
 refine Classical.byContradiction fun hn => h ((xL b r).2 fun i hi => Classical.byContradiction fun hz => hn ⟨i, hi, hz⟩)
def Ft (l : LU0) : ug := [(some (l.length ≠ 48 /\ l.length ≠ 96), .tp [.v (.string (ofL [])), .v (.int .u8 0), vi0 3]), (some ((l.length = 48 /\ pO l ≠ 4 /\ pO l ≠ 5 /\ pO l ≠ 6) ∨ (l.length = 96 /\ pO l ≠ 0 /\ pO l ≠ 2)), .tp [.v (.string (ofL [])), .v (.int .u8 0), vi0 32]), (some (((l.length = 48 /\ pO l = 6) ∨ (l.length = 96 /\ pO l = 2)) /\ ¬ sP (pJ l)), .tp [.v (.string (ofL [])), .v (.int .u8 0), vi0 33]), (some (l.length = 48 /\ pO l = 4), .tp [.v (.string (ofL (pJ l))), .v (.int .u8 128), vi0 0]), (some (l.length = 48 /\ pO l = 5), .tp [.v (.string (ofL (pJ l))), .v (.int .u8 160), vi0 0]), (some (l.length = 96 /\ pO l = 0), .tp [.v (.string (ofL (pJ l))), .v (.int .u8 0), vi0 0]), (some ((l.length = 48 /\ pO l = 6) /\ sP (pJ l)), .tp [.v (.string (ofL (pJ l))), .v (.int .u8 192), vi0 0]), (some ((l.length = 96 /\ pO l = 2) /\ sP (pJ l)), .tp [.v (.string (ofL (pJ l))), .v (.int .u8 64), vi0 0])]
def Pd : Entry := sH 57 XPar.str (XPar.int .i64) (fun l m => match decide (m = 48) with | true => Ft l | false => [])
theorem afx (l : LU0) : ∀ c r, (c, r) ∈ Ft l -> c.getD True -> Gives prog 57 [.t (.v (.string (ofL l))), .t (vi0 48)] r := by
 intro c x hm hc
 simp only [Ft, List.mem_cons, pi0, List.not_mem_nil, or_false] at hm
 rcases hm with ⟨rfl, rfl⟩ | ⟨rfl, rfl⟩ | ⟨rfl, rfl⟩ | ⟨rfl, rfl⟩ | ⟨rfl, rfl⟩ | ⟨rfl, rfl⟩ | ⟨rfl, rfl⟩ | ⟨rfl, rfl⟩
 ·exact Jq l hc.1 hc.2
 ·match l, hc with
  | [], hc => simp at hc
  | b :: r, hc =>
   have hb := UInt8.toNat_lt b
   rcases hc with ⟨hL, h4, h5, h6⟩ | ⟨hL, h0, h2⟩
   ·have h4 : b.toNat / 32 ≠ 4 := h4
    have h5 : b.toNat / 32 ≠ 5 := h5
    have h6 : b.toNat / 32 ≠ 6 := h6
    obtain h | h | h | h | h : b.toNat / 32 = 0 ∨ b.toNat / 32 = 1 ∨ b.toNat / 32 = 2 ∨ b.toNat / 32 = 3 ∨ b.toNat / 32 = 7 := by omega
    ·exact Oe b r hL (by rw [h])
    ·exact M7 b r hL (by rw [h])
    ·exact Mw b r hL (by rw [h])
    ·exact Ot b r hL (by rw [h])
    ·exact MN b r hL (by rw [h])
   ·have h0 : b.toNat / 32 ≠ 0 := h0
    have h2 : b.toNat / 32 ≠ 2 := h2
    obtain h | h | h | h | h | h : b.toNat / 32 = 1 ∨ b.toNat / 32 = 3 ∨ b.toNat / 32 = 4 ∨ b.toNat / 32 = 5 ∨ b.toNat / 32 = 6 ∨ b.toNat / 32 = 7 := by omega
    ·exact MY b r hL (by rw [h])
    ·exact OE b r hL (by rw [h])
    ·exact N5 b r hL (by rw [h])
    ·exact OM b r hL (by rw [h])
    ·exact MG b r hL (by rw [h])
    ·exact Nr b r hL (by rw [h])
 ·match l, hc with
  | [], hc => simp at hc
  | b :: r, hc =>
   obtain ⟨hc, hn⟩ := hc
   obtain ⟨j, hj, hz⟩ := IN b r hn
   rcases hc with ⟨hL, h⟩ | ⟨hL, h⟩
   ·have h : b.toNat / 32 = 6 := h
    exact KX b r hL (by rw [h]) j hj hz
   ·have h : b.toNat / 32 = 2 := h
    exact JO b r hL (by rw [h]) j hj hz
 ·match l, hc with
  | [], hc => simp at hc
  | b :: r, hc =>
   obtain ⟨hL, h⟩ := hc
   have h : b.toNat / 32 = 4 := h
   exact OL b r hL (by rw [h])
 ·match l, hc with
  | [], hc => simp at hc
  | b :: r, hc =>
   obtain ⟨hL, h⟩ := hc
   have h : b.toNat / 32 = 5 := h
   exact Ol b r hL (by rw [h])
 ·match l, hc with
  | [], hc => simp at hc
  | b :: r, hc =>
   obtain ⟨hL, h⟩ := hc
   have h : b.toNat / 32 = 0 := h
   exact NY b r hL (by rw [h])
 ·match l, hc with
  | [], hc => simp at hc
  | b :: r, hc =>
   obtain ⟨hL, h⟩ := hc.1
   have h : b.toNat / 32 = 6 := h
   exact KJ b r hL (by rw [h]) ((xL b r).1 hc.2)
 ·match l, hc with
  | [], hc => simp at hc
  | b :: r, hc =>
   obtain ⟨hL, h⟩ := hc.1
   have h : b.toNat / 32 = 2 := h
   exact Jz b r hL (by rw [h]) ((xL b r).1 hc.2)
theorem Px : Pd.OK prog := qS (fun args w => Go.Proofs.enters_of (P := prog) func57 (by kernel_rfl) rfl args w) (fun l m c r hm hc => by
 by_cases e : m = 48
 ·subst e
  exact afx l c r hm hc
 ·rw [decide_eq_false e] at hm
  cases hm)
def FN (l : LU0) : ug := [(some (l.length ≠ 96 /\ l.length ≠ 192), .tp [.v (.string (ofL [])), .v (.int .u8 0), vi0 3]), (some ((l.length = 96 /\ pO l ≠ 4 /\ pO l ≠ 5 /\ pO l ≠ 6) ∨ (l.length = 192 /\ pO l ≠ 0 /\ pO l ≠ 2)), .tp [.v (.string (ofL [])), .v (.int .u8 0), vi0 32]), (some (((l.length = 96 /\ pO l = 6) ∨ (l.length = 192 /\ pO l = 2)) /\ ¬ sP (pJ l)), .tp [.v (.string (ofL [])), .v (.int .u8 0), vi0 33]), (some (l.length = 96 /\ pO l = 4), .tp [.v (.string (ofL (pJ l))), .v (.int .u8 128), vi0 0]), (some (l.length = 96 /\ pO l = 5), .tp [.v (.string (ofL (pJ l))), .v (.int .u8 160), vi0 0]), (some (l.length = 192 /\ pO l = 0), .tp [.v (.string (ofL (pJ l))), .v (.int .u8 0), vi0 0]), (some ((l.length = 96 /\ pO l = 6) /\ sP (pJ l)), .tp [.v (.string (ofL (pJ l))), .v (.int .u8 192), vi0 0]), (some ((l.length = 192 /\ pO l = 2) /\ sP (pJ l)), .tp [.v (.string (ofL (pJ l))), .v (.int .u8 64), vi0 0])]
def Ro : Entry := sH 57 XPar.str (XPar.int .i64) (fun l m => match decide (m = 96) with | true => FN l | false => [])
theorem afz (l : LU0) : ∀ c r, (c, r) ∈ FN l -> c.getD True -> Gives prog 57 [.t (.v (.string (ofL l))), .t (vi0 96)] r := by
 intro c x hm hc
 simp only [FN, List.mem_cons, pi0, List.not_mem_nil, or_false] at hm
 rcases hm with ⟨rfl, rfl⟩ | ⟨rfl, rfl⟩ | ⟨rfl, rfl⟩ | ⟨rfl, rfl⟩ | ⟨rfl, rfl⟩ | ⟨rfl, rfl⟩ | ⟨rfl, rfl⟩ | ⟨rfl, rfl⟩
 ·exact KL l hc.1 hc.2
 ·match l, hc with
  | [], hc => simp at hc
  | b :: r, hc =>
   have hb := UInt8.toNat_lt b
   rcases hc with ⟨hL, h4, h5, h6⟩ | ⟨hL, h0, h2⟩
   ·have h4 : b.toNat / 32 ≠ 4 := h4
    have h5 : b.toNat / 32 ≠ 5 := h5
    have h6 : b.toNat / 32 ≠ 6 := h6
    obtain h | h | h | h | h : b.toNat / 32 = 0 ∨ b.toNat / 32 = 1 ∨ b.toNat / 32 = 2 ∨ b.toNat / 32 = 3 ∨ b.toNat / 32 = 7 := by omega
    ·exact NQ b r hL (by rw [h])
    ·exact ME b r hL (by rw [h])
    ·exact OD b r hL (by rw [h])
    ·exact Nl b r hL (by rw [h])
    ·exact NO b r hL (by rw [h])
   ·have h0 : b.toNat / 32 ≠ 0 := h0
    have h2 : b.toNat / 32 ≠ 2 := h2
    obtain h | h | h | h | h | h : b.toNat / 32 = 1 ∨ b.toNat / 32 = 3 ∨ b.toNat / 32 = 4 ∨ b.toNat / 32 = 5 ∨ b.toNat / 32 = 6 ∨ b.toNat / 32 = 7 := by omega
    ·exact NK b r hL (by rw [h])
    ·exact NF b r hL (by rw [h])
    ·exact MA b r hL (by rw [h])
    ·exact Nu b r hL (by rw [h])
    ·exact OC b r hL (by rw [h])
    ·exact Ou b r hL (by rw [h])
 ·match l, hc with
  | [], hc => simp at hc
  | b :: r, hc =>
   obtain ⟨hc, hn⟩ := hc
   obtain ⟨j, hj, hz⟩ := IN b r hn
   rcases hc with ⟨hL, h⟩ | ⟨hL, h⟩
   ·have h : b.toNat / 32 = 6 := h
    exact KQ b r hL (by rw [h]) j hj hz
   ·have h : b.toNat / 32 = 2 := h
    exact JL b r hL (by rw [h]) j hj hz
 ·match l, hc with
  | [], hc => simp at hc
  | b :: r, hc =>
   obtain ⟨hL, h⟩ := hc
   have h : b.toNat / 32 = 4 := h
   exact NX b r hL (by rw [h])
 ·match l, hc with
  | [], hc => simp at hc
  | b :: r, hc =>
   obtain ⟨hL, h⟩ := hc
   have h : b.toNat / 32 = 5 := h
   exact NJ b r hL (by rw [h])
 ·match l, hc with
  | [], hc => simp at hc
  | b :: r, hc =>
   obtain ⟨hL, h⟩ := hc
   have h : b.toNat / 32 = 0 := h
   exact NH b r hL (by rw [h])
 ·match l, hc with
  | [], hc => simp at hc
  | b :: r, hc =>
   obtain ⟨hL, h⟩ := hc.1
   have h : b.toNat / 32 = 6 := h
   exact JC b r hL (by rw [h]) ((xL b r).1 hc.2)
 ·match l, hc with
  | [], hc => simp at hc
  | b :: r, hc =>
   obtain ⟨hL, h⟩ := hc.1
   have h : b.toNat / 32 = 2 := h
   exact Ks b r hL (by rw [h]) ((xL b r).1 hc.2)
theorem TP : Ro.OK prog := qS (fun args w => Go.Proofs.enters_of (P := prog) func57 (by kernel_rfl) rfl args w) (fun l m c r hm hc => by
 by_cases e : m = 96
 ·subst e
  exact afz l c r hm hc
 ·rw [decide_eq_false e] at hm
  cases hm)
end Go.Proofs.YtokjhbmmdmeafaaGreat
set_option linter.unusedSimpArgs false
set_option linter.unusedVariables false
namespace Go.Proofs.YtokjhbmmdmeafaaGreat
open Go.Ev Go.RowKit
open Tryz
theorem pP (l : LU0) : (pJ l).length = l.length := by
 match l with
 | [] => rfl
 | b :: r => rfl
theorem yr (l : LU0) : (ofL (pJ l)).size = l.length := pP l
theorem AP (l : LU0) (n : Nat) : (ofL ((pJ l).drop n)).size = l.length - n := by
 show ((pJ l).drop n).length = _
 rw [List.length_drop, pP]
theorem K6 (l : LU0) (n k : Nat) : (ofL (((pJ l).drop n).drop k)).size = l.length - n - k := by
 show (((pJ l).drop n).drop k).length = _
 rw [List.length_drop, List.length_drop, pP]
def nX (l : LU0) : Nat := deN 48 ((pJ l).take 48)
def nY (l : LU0) : Nat := deN 48 (((pJ l).drop 48).take 48)
def sy1 (a : Fin Pp) (high : Bool) : Fin Pp := match high with | true => -(lowP (rtP a)) | false => lowP (rtP a)
abbrev Ey : List Ch := [.c (.int .u64 0), .c (.int .u64 0), .c (.int .u64 0), .c (.int .u64 0), .c (.int .u64 0), .c (.int .u64 0), .c (.int .u64 0), .c (.int .u64 0), .c (.int .u64 0), .c (.int .u64 0), .c (.int .u64 0), .c (.int .u64 0), .c (.bool false)]
abbrev rY (l : LU0) : List XV := [.t (.v (.string (ofL l)))]
theorem rZ {a : List XV} {r : AV} {b : Prop} (o : LO0) (hb : b) (h : fnA prog (qC _) [Pd, C0, BN, qt, re, tl, xc, vn, uS, BR, Dy] 2 (oL o) f27 a = some (r, b) := by kernel_rfl) (hv : ∃ v, r.val? = some v := by exact ⟨_, rfl⟩) : Gives prog 27 a r := pL (P := prog) (X := qC _) (env := [Pd, C0, BN, qt, re, tl, xc, vn, uS, BR, Dy]) ⟨Px, DN, vY, qb, qj, qz, uC, sf, rS, xl, CC, tt0⟩ func27 2 (oL o) h hv hb
theorem V5 (l : LU0) (h : l.length ≠ 48 /\ l.length ≠ 96) : Gives prog 27 (rY l) (.tp [.ag Ey, vi0 3]) :=
 rZ [(3, wO 0)] (ai (show l.length ≠ 48 /\ l.length ≠ 96 from h) tt0)
theorem Rx (l : LU0) (h : (l.length = 48 /\ pO l ≠ 4 /\ pO l ≠ 5 /\ pO l ≠ 6) ∨ (l.length = 96 /\ pO l ≠ 0 /\ pO l ≠ 2)) : Gives prog 27 (rY l) (.tp [.ag Ey, vi0 32]) :=
 rZ [(3, wO 1)] (ai (show (l.length = 48 /\ pO l ≠ 4 /\ pO l ≠ 5 /\ pO l ≠ 6) ∨ (l.length = 96 /\ pO l ≠ 0 /\ pO l ≠ 2) from h) tt0)
theorem PK (l : LU0) (h : ((l.length = 48 /\ pO l = 6) ∨ (l.length = 96 /\ pO l = 2)) /\ ¬ sP (pJ l)) : Gives prog 27 (rY l) (.tp [.ag Ey, vi0 33]) :=
 rZ [(3, wO 2)] (ai (show ((l.length = 48 /\ pO l = 6) ∨ (l.length = 96 /\ pO l = 2)) /\ ¬ sP (pJ l) from h) tt0)
abbrev Qk : AV := .tp [.ag [.c (.int .u64 0), .c (.int .u64 0), .c (.int .u64 0), .c (.int .u64 0), .c (.int .u64 0), .c (.int .u64 0), .c (.int .u64 0), .c (.int .u64 0), .c (.int .u64 0), .c (.int .u64 0), .c (.int .u64 0), .c (.int .u64 0), .c (.bool true)], vi0 0]
theorem Wp (l : LU0) (h : (l.length = 48 /\ pO l = 6) /\ sP (pJ l)) : Gives prog 27 (rY l) Qk :=
 rZ [(3, wO 6)] (ai (show (l.length = 48 /\ pO l = 6) /\ sP (pJ l) from h) tt0)
theorem UO (l : LU0) (h : (l.length = 96 /\ pO l = 2) /\ sP (pJ l)) : Gives prog 27 (rY l) Qk :=
 rZ [(3, wO 7)] (ai (show (l.length = 96 /\ pO l = 2) /\ sP (pJ l) from h) tt0)
theorem Fh (l : LU0) (hL : l.length = 48) : (((ofL ((pJ l).drop 48)).size : Nat) : Int) = ((0 : Nat) : Int) := by rw [AP, hL]
theorem xM (l : LU0) (hL : l.length = 48) : (0 : Int) <= 48 /\ (48 : Int) <= (ofL (pJ l)).size := ⟨by decide, by rw [yr, hL]; decide⟩
theorem Sa (l : LU0) (hL : l.length = 48) (h : 4002409555221667393417789825735904156556882819939007885332058136124031650490837864442687629129015664037894272559787 <= nX l) : ((pJ l).take 48).length = 48 /\ 4002409555221667393417789825735904156556882819939007885332058136124031650490837864442687629129015664037894272559787 <= deN 48 ((pJ l).take 48) := ⟨by simp only [List.length_take, List.length_drop, pP, hL]; rfl, h⟩
theorem G3 (l : LU0) (hL : l.length = 48) : (((ofL (pJ l)).size : Nat) : Int) = ((48 : Nat) : Int) := by rw [yr, hL]
def zv : Ora := { ch := 1, hi := fun _ => 48 }
abbrev CR (l : LU0) : Prop := 4002409555221667393417789825735904156556882819939007885332058136124031650490837864442687629129015664037894272559787 <= nX l
abbrev Du : AV := .tp [.ag Ey, vi0 20]
theorem QD (l : LU0) (hL : l.length = 48) (ht : pO l = 4) (h : CR l) : Gives prog 27 (rY l) Du :=
 rZ [(3, wO 3), (29, zv), (36, rO 5 0), (37, wO 2), (45, rO 5 0), (57, uP)] (ai (Fh l hL) (ai (xM l hL) (ai (Sa l hL h) (ai (xM l hL) (ai (G3 l hL) (ai (show l.length = 48 /\ pO l = 4 from ⟨hL, ht⟩) tt0))))))
theorem Tb (l : LU0) (hL : l.length = 48) (h : nX l < 4002409555221667393417789825735904156556882819939007885332058136124031650490837864442687629129015664037894272559787) : ((pJ l).take 48).length = 48 /\ deN 48 ((pJ l).take 48) < 4002409555221667393417789825735904156556882819939007885332058136124031650490837864442687629129015664037894272559787 := ⟨by simp only [List.length_take, List.length_drop, pP, hL]; rfl, h⟩
abbrev pM (l : LU0) := ofP (deN 48 ((pJ l).take 48))
abbrev vo (l : LU0) : Prop := nX l < 4002409555221667393417789825735904156556882819939007885332058136124031650490837864442687629129015664037894272559787
def K4 {l : LU0} (hL : l.length = 48) (ht : pO l = 4) (h : vo l) := PLift.up (ai (Fh l hL) (ai (xM l hL) (ai (Tb l hL h) (ai (xM l hL) (ai (G3 l hL) (ai (show l.length = 48 /\ pO l = 4 from ⟨hL, ht⟩) tt0))))))
abbrev Jj : AV := .tp [.ag Ey, vi0 30]
def Jf : LO0 := [(3, wO 3), (29, zv), (36, rO 5 0), (37, wO 1), (45, rO 5 0), (57, uP)]
theorem Ph (l : LU0) (hL : l.length = 48) (ht : pO l = 4) (h : vo l) (hq : ¬ sqP ((pM l) * (pM l) * (pM l) + ofP (4 % 18446744073709551616))) : Gives prog 27 (rY l) Jj :=
 rZ (Jf ++ [(92, wO 1)]) (ai (show ¬ sqP ((pM l) * (pM l) * (pM l) + ofP (4 % 18446744073709551616)) from hq)
   (K4 hL ht h).down)
theorem Gh (l : LU0) (hq : sqP ((ofP (deN 48 ((pJ l).take 48))) * (ofP (deN 48 ((pJ l).take 48))) * (ofP (deN 48 ((pJ l).take 48))) + ofP (4 % 18446744073709551616))) : sqP ((ofP (deN 48 ((pJ l).take 48))) * (ofP (deN 48 ((pJ l).take 48))) * (ofP (deN 48 ((pJ l).take 48))) + ofP (4 % 18446744073709551616)) := hq
abbrev J3 : AV := .tp [.ag Ey, vi0 31]
theorem Qx (l : LU0) (hL : l.length = 48) (ht : pO l = 4) (h : vo l) (hq : sqP ((pM l) * (pM l) * (pM l) + ofP (4 % 18446744073709551616))) (hg : sml1 ((pM l).val, (lowP (rtP ((pM l) * (pM l) * (pM l) + ofP (4 % 18446744073709551616)))).val, false) /\ may1 ((pM l).val, (lowP (rtP ((pM l) * (pM l) * (pM l) + ofP (4 % 18446744073709551616)))).val, false) /\ ¬ q7 ((pM l).val, (lowP (rtP ((pM l) * (pM l) * (pM l) + ofP (4 % 18446744073709551616)))).val, false)) : Gives prog 27 (rY l) J3 :=
 rZ (Jf ++ [(92, wO 0), (109, wO 0), (113, wO 1)]) (ai (show sml1 ((pM l).val, (lowP (rtP ((pM l) * (pM l) * (pM l) + ofP (4 % 18446744073709551616)))).val, false) /\ may1 ((pM l).val, (lowP (rtP ((pM l) * (pM l) * (pM l) + ofP (4 % 18446744073709551616)))).val, false) /\ ¬ q7 ((pM l).val, (lowP (rtP ((pM l) * (pM l) * (pM l) + ofP (4 % 18446744073709551616)))).val, false) from hg) (ai (show sml1 ((pM l).val, (lowP (rtP ((pM l) * (pM l) * (pM l) + ofP (4 % 18446744073709551616)))).val, false) /\ may1 ((pM l).val, (lowP (rtP ((pM l) * (pM l) * (pM l) + ofP (4 % 18446744073709551616)))).val, false) from ⟨hg.1, hg.2.1⟩) (ai (Gh l hq)
   (K4 hL ht h).down)))
theorem Nj (l : LU0) (hL : l.length = 48) (ht : pO l = 4) (h : vo l) (hq : sqP ((pM l) * (pM l) * (pM l) + ofP (4 % 18446744073709551616))) (hg : sml1 ((pM l).val, (lowP (rtP ((pM l) * (pM l) * (pM l) + ofP (4 % 18446744073709551616)))).val, false) /\ may1 ((pM l).val, (lowP (rtP ((pM l) * (pM l) * (pM l) + ofP (4 % 18446744073709551616)))).val, false) /\ q7 ((pM l).val, (lowP (rtP ((pM l) * (pM l) * (pM l) + ofP (4 % 18446744073709551616)))).val, false)) : Gives prog 27 (rY l) (.tp [.ag [.q (ofP (deN 48 ((pJ l).take 48))), .q (lowP (rtP ((ofP (deN 48 ((pJ l).take 48))) * (ofP (deN 48 ((pJ l).take 48))) * (ofP (deN 48 ((pJ l).take 48))) + ofP (4 % 18446744073709551616)))), .c (.bool false)], vi0 0]) :=
 rZ (Jf ++ [(92, wO 0), (109, wO 0), (113, wO 0)]) (ai (show sml1 ((pM l).val, (lowP (rtP ((pM l) * (pM l) * (pM l) + ofP (4 % 18446744073709551616)))).val, false) /\ may1 ((pM l).val, (lowP (rtP ((pM l) * (pM l) * (pM l) + ofP (4 % 18446744073709551616)))).val, false) /\ q7 ((pM l).val, (lowP (rtP ((pM l) * (pM l) * (pM l) + ofP (4 % 18446744073709551616)))).val, false) from hg) (ai (show sml1 ((pM l).val, (lowP (rtP ((pM l) * (pM l) * (pM l) + ofP (4 % 18446744073709551616)))).val, false) /\ may1 ((pM l).val, (lowP (rtP ((pM l) * (pM l) * (pM l) + ofP (4 % 18446744073709551616)))).val, false) from ⟨hg.1, hg.2.1⟩) (ai (Gh l hq)
   (K4 hL ht h).down)))
theorem Qs (l : LU0) (hL : l.length = 48) (ht : pO l = 5) (h : CR l) : Gives prog 27 (rY l) Du :=
 rZ [(3, wO 4), (29, zv), (36, rO 5 0), (37, wO 2), (45, rO 5 0), (57, uP)] (ai (Fh l hL) (ai (xM l hL) (ai (Sa l hL h) (ai (xM l hL) (ai (G3 l hL) (ai (show l.length = 48 /\ pO l = 5 from ⟨hL, ht⟩) tt0))))))
def JX {l : LU0} (hL : l.length = 48) (ht : pO l = 5) (h : vo l) := PLift.up (ai (Fh l hL) (ai (xM l hL) (ai (Tb l hL h) (ai (xM l hL) (ai (G3 l hL) (ai (show l.length = 48 /\ pO l = 5 from ⟨hL, ht⟩) tt0))))))
def Ki : LO0 := [(3, wO 4), (29, zv), (36, rO 5 0), (37, wO 1), (45, rO 5 0), (57, uP)]
theorem TS (l : LU0) (hL : l.length = 48) (ht : pO l = 5) (h : vo l) (hq : ¬ sqP ((pM l) * (pM l) * (pM l) + ofP (4 % 18446744073709551616))) : Gives prog 27 (rY l) Jj :=
 rZ (Ki ++ [(92, wO 1)]) (ai (show ¬ sqP ((pM l) * (pM l) * (pM l) + ofP (4 % 18446744073709551616)) from hq)
   (JX hL ht h).down)
theorem Sz (l : LU0) (hL : l.length = 48) (ht : pO l = 5) (h : vo l) (hq : sqP ((pM l) * (pM l) * (pM l) + ofP (4 % 18446744073709551616))) (hg : sml1 ((pM l).val, (-(lowP (rtP ((pM l) * (pM l) * (pM l) + ofP (4 % 18446744073709551616))))).val, false) /\ may1 ((pM l).val, (-(lowP (rtP ((pM l) * (pM l) * (pM l) + ofP (4 % 18446744073709551616))))).val, false) /\ ¬ q7 ((pM l).val, (-(lowP (rtP ((pM l) * (pM l) * (pM l) + ofP (4 % 18446744073709551616))))).val, false)) : Gives prog 27 (rY l) J3 :=
 rZ (Ki ++ [(92, wO 0), (112, wO 0), (116, wO 1)]) (ai (show sml1 ((pM l).val, (-(lowP (rtP ((pM l) * (pM l) * (pM l) + ofP (4 % 18446744073709551616))))).val, false) /\ may1 ((pM l).val, (-(lowP (rtP ((pM l) * (pM l) * (pM l) + ofP (4 % 18446744073709551616))))).val, false) /\ ¬ q7 ((pM l).val, (-(lowP (rtP ((pM l) * (pM l) * (pM l) + ofP (4 % 18446744073709551616))))).val, false) from hg) (ai (show sml1 ((pM l).val, (-(lowP (rtP ((pM l) * (pM l) * (pM l) + ofP (4 % 18446744073709551616))))).val, false) /\ may1 ((pM l).val, (-(lowP (rtP ((pM l) * (pM l) * (pM l) + ofP (4 % 18446744073709551616))))).val, false) from ⟨hg.1, hg.2.1⟩) (ai (Gh l hq)
   (JX hL ht h).down)))
theorem Oq (l : LU0) (hL : l.length = 48) (ht : pO l = 5) (h : vo l) (hq : sqP ((pM l) * (pM l) * (pM l) + ofP (4 % 18446744073709551616))) (hg : sml1 ((pM l).val, (-(lowP (rtP ((pM l) * (pM l) * (pM l) + ofP (4 % 18446744073709551616))))).val, false) /\ may1 ((pM l).val, (-(lowP (rtP ((pM l) * (pM l) * (pM l) + ofP (4 % 18446744073709551616))))).val, false) /\ q7 ((pM l).val, (-(lowP (rtP ((pM l) * (pM l) * (pM l) + ofP (4 % 18446744073709551616))))).val, false)) : Gives prog 27 (rY l) (.tp [.ag [.q (ofP (deN 48 ((pJ l).take 48))), .q (-(lowP (rtP ((ofP (deN 48 ((pJ l).take 48))) * (ofP (deN 48 ((pJ l).take 48))) * (ofP (deN 48 ((pJ l).take 48))) + ofP (4 % 18446744073709551616))))), .c (.bool false)], vi0 0]) :=
 rZ (Ki ++ [(92, wO 0), (112, wO 0), (116, wO 0)]) (ai (show sml1 ((pM l).val, (-(lowP (rtP ((pM l) * (pM l) * (pM l) + ofP (4 % 18446744073709551616))))).val, false) /\ may1 ((pM l).val, (-(lowP (rtP ((pM l) * (pM l) * (pM l) + ofP (4 % 18446744073709551616))))).val, false) /\ q7 ((pM l).val, (-(lowP (rtP ((pM l) * (pM l) * (pM l) + ofP (4 % 18446744073709551616))))).val, false) from hg) (ai (show sml1 ((pM l).val, (-(lowP (rtP ((pM l) * (pM l) * (pM l) + ofP (4 % 18446744073709551616))))).val, false) /\ may1 ((pM l).val, (-(lowP (rtP ((pM l) * (pM l) * (pM l) + ofP (4 % 18446744073709551616))))).val, false) from ⟨hg.1, hg.2.1⟩) (ai (Gh l hq)
   (JX hL ht h).down)))
theorem GU (l : LU0) (hL : l.length = 96) : (((ofL (((pJ l).drop 48).drop 48)).size : Nat) : Int) = ((0 : Nat) : Int) := by rw [K6, hL]
theorem AZ (l : LU0) (hL : l.length = 96) : (0 : Int) <= 48 /\ (48 : Int) <= (ofL ((pJ l).drop 48)).size := ⟨by decide, by rw [AP, hL]; decide⟩
theorem TL (l : LU0) (hL : l.length = 96) (h2 : nY l < 4002409555221667393417789825735904156556882819939007885332058136124031650490837864442687629129015664037894272559787) : (((pJ l).drop 48).take 48).length = 48 /\ deN 48 (((pJ l).drop 48).take 48) < 4002409555221667393417789825735904156556882819939007885332058136124031650490837864442687629129015664037894272559787 := ⟨by simp only [List.length_take, List.length_drop, pP, hL]; rfl, h2⟩
theorem Sh (l : LU0) (hL : l.length = 96) : (((ofL ((pJ l).drop 48)).size : Nat) : Int) = ((48 : Nat) : Int) := by rw [AP, hL]
theorem FE (l : LU0) (hL : l.length = 96) : (0 : Int) <= 48 /\ (48 : Int) <= (ofL (pJ l)).size := ⟨by decide, by rw [yr, hL]; decide⟩
theorem YF (l : LU0) (hL : l.length = 96) (h1 : nX l < 4002409555221667393417789825735904156556882819939007885332058136124031650490837864442687629129015664037894272559787) : ((pJ l).take 48).length = 48 /\ deN 48 ((pJ l).take 48) < 4002409555221667393417789825735904156556882819939007885332058136124031650490837864442687629129015664037894272559787 := ⟨by simp only [List.length_take, List.length_drop, pP, hL]; rfl, h1⟩
theorem TH (l : LU0) (hL : l.length = 96) : (((ofL (pJ l)).size : Nat) : Int) = ((96 : Nat) : Int) := by rw [yr, hL]
theorem TU (l : LU0) (hL : l.length = 96) (ht : pO l = 0) : l.length = 96 /\ pO l = 0 := ⟨hL, ht⟩
abbrev tb (l : LU0) := ((pM l).val, (ofP (deN 48 (((pJ l).drop 48).take 48))).val, false)
def Xe {l : LU0} (hL : l.length = 96) (ht : pO l = 0) (h1 : vo l) := PLift.up (ai (AZ l hL) (ai (Sh l hL) (ai (FE l hL) (ai (YF l hL h1) (ai (FE l hL) (ai (TH l hL) (ai (TU l hL ht) tt0)))))))
abbrev Dj (l : LU0) : Prop := nY l < 4002409555221667393417789825735904156556882819939007885332058136124031650490837864442687629129015664037894272559787
def J0 {l : LU0} (hL : l.length = 96) (ht : pO l = 0) (h1 : vo l) (h2 : Dj l) := PLift.up (ai (GU l hL) (ai (AZ l hL) (ai (TL l hL h2)
   (Xe hL ht h1).down)))
def Km : LO0 := [(3, wO 5), (29, za), (36, rO 5 0), (37, wO 1), (45, rO 5 0), (57, zv), (64, rO 5 0), (65, wO 1), (73, rO 5 0), (85, uP)]
theorem Ul (l : LU0) (hL : l.length = 96) (ht : pO l = 0) (h1 : vo l) (h2 : Dj l) (hr : sml1 (tb l) /\ ¬ may1 (tb l)) : Gives prog 27 (rY l) Jj :=
 rZ (Km ++ [(114, wO 1)]) (ai (show sml1 (tb l) /\ ¬ may1 (tb l) from hr)
   (J0 hL ht h1 h2).down)
theorem VR (l : LU0) (hL : l.length = 96) (ht : pO l = 0) (h1 : vo l) (h2 : Dj l) (hg : sml1 (tb l) /\ may1 (tb l) /\ ¬ q7 (tb l)) : Gives prog 27 (rY l) J3 :=
 rZ (Km ++ [(114, wO 0), (118, wO 1)]) (ai (show sml1 (tb l) /\ may1 (tb l) /\ ¬ q7 (tb l) from hg) (ai (show sml1 (tb l) /\ may1 (tb l) from ⟨hg.1, hg.2.1⟩)
   (J0 hL ht h1 h2).down))
theorem Pc (l : LU0) (hL : l.length = 96) (ht : pO l = 0) (h1 : vo l) (h2 : Dj l) (hg : sml1 (tb l) /\ may1 (tb l) /\ q7 (tb l)) : Gives prog 27 (rY l) (.tp [.ag [.q (ofP (deN 48 ((pJ l).take 48))), .q (ofP (deN 48 (((pJ l).drop 48).take 48))), .c (.bool false)], vi0 0]) :=
 rZ (Km ++ [(114, wO 0), (118, wO 0)]) (ai (show sml1 (tb l) /\ may1 (tb l) /\ q7 (tb l) from hg) (ai (show sml1 (tb l) /\ may1 (tb l) from ⟨hg.1, hg.2.1⟩)
   (J0 hL ht h1 h2).down))
theorem RI (l : LU0) (hL : l.length = 96) (h2 : 4002409555221667393417789825735904156556882819939007885332058136124031650490837864442687629129015664037894272559787 <= nY l) : (((pJ l).drop 48).take 48).length = 48 /\ 4002409555221667393417789825735904156556882819939007885332058136124031650490837864442687629129015664037894272559787 <= deN 48 (((pJ l).drop 48).take 48) := ⟨by simp only [List.length_take, List.length_drop, pP, hL]; rfl, h2⟩
abbrev RU (l : LU0) : Prop := 4002409555221667393417789825735904156556882819939007885332058136124031650490837864442687629129015664037894272559787 <= nY l
theorem QO (l : LU0) (hL : l.length = 96) (ht : pO l = 0) (h1 : vo l) (h2 : RU l) : Gives prog 27 (rY l) Du :=
 rZ [(3, wO 5), (29, za), (36, rO 5 0), (37, wO 1), (45, rO 5 0), (57, zv), (64, rO 5 0), (65, wO 2), (73, rO 5 0), (85, uP)] (ai (GU l hL) (ai (AZ l hL) (ai (RI l hL h2)
   (Xe hL ht h1).down)))
theorem aan (l : LU0) (hL : l.length = 96) (h1 : 4002409555221667393417789825735904156556882819939007885332058136124031650490837864442687629129015664037894272559787 <= nX l) : ((pJ l).take 48).length = 48 /\ 4002409555221667393417789825735904156556882819939007885332058136124031650490837864442687629129015664037894272559787 <= deN 48 ((pJ l).take 48) := ⟨by simp only [List.length_take, List.length_drop, pP, hL]; rfl, h1⟩
def Rw {l : LU0} (hL : l.length = 96) (ht : pO l = 0) (h1 : CR l) := PLift.up (ai (AZ l hL) (ai (Sh l hL) (ai (FE l hL) (ai (aan l hL h1) (ai (FE l hL) (ai (TH l hL) (ai (TU l hL ht) tt0)))))))
def PM : LO0 := [(3, wO 5), (29, za), (36, rO 5 0), (37, wO 2), (45, rO 5 0), (57, zv), (64, rO 5 0)]
theorem PL (l : LU0) (hL : l.length = 96) (ht : pO l = 0) (h1 : CR l) (h2 : Dj l) : Gives prog 27 (rY l) Du :=
 rZ (PM ++ [(65, wO 1), (73, rO 5 0), (83, uP)]) (ai (GU l hL) (ai (AZ l hL) (ai (TL l hL h2)
   (Rw hL ht h1).down)))
theorem Rv (l : LU0) (hL : l.length = 96) (ht : pO l = 0) (h1 : CR l) (h2 : RU l) : Gives prog 27 (rY l) Du :=
 rZ (PM ++ [(65, wO 2), (73, rO 5 0), (83, uP)]) (ai (GU l hL) (ai (AZ l hL) (ai (RI l hL h2)
   (Rw hL ht h1).down)))
def sh1 (l : LU0) : Prop := l.length = 48 /\ (pO l = 4 ∨ pO l = 5)
def lo1 (l : LU0) : Prop := l.length = 96 /\ pO l = 0
theorem L5 (a : Fin Pp) (hq : sqP a) : lowP (rtP a) * lowP (rtP a) = a := (AN _).trans hq
theorem Zk (a : Fin Pp) : -a * -a = a * a := by grind
theorem uY (x y : Fin Pp) (b : Bool) : sml1 (x.val, y.val, b) := ⟨wA x, wA y⟩
theorem w6 (x : Fin Pp) (h : Bool) (hq : sqP (tx x)) : may1 (x.val, (sy1 (tx x) h).val, false) := by
 show is1 x.val /\ is1 (sy1 (tx x) h).val /\ ofP (sy1 (tx x) h).val * ofP (sy1 (tx x) h).val = tx (ofP x.val)
 refine ⟨x.isLt, (sy1 (tx x) h).isLt, ?_⟩
 rw [wx, wx]
 cases h
 ·exact L5 _ hq
 ·show -(lowP (rtP (tx x))) * -(lowP (rtP (tx x))) = tx x
  rw [Zk]; exact L5 _ hq
def altG1 (l : LU0) : ug := [(some (l.length ≠ 48 /\ l.length ≠ 96), .tp [.ag [.c (.int .u64 0), .c (.int .u64 0), .c (.int .u64 0), .c (.int .u64 0), .c (.int .u64 0), .c (.int .u64 0), .c (.int .u64 0), .c (.int .u64 0), .c (.int .u64 0), .c (.int .u64 0), .c (.int .u64 0), .c (.int .u64 0), .c (.bool false)], vi0 3]), (some ((l.length = 48 /\ pO l ≠ 4 /\ pO l ≠ 5 /\ pO l ≠ 6) ∨ (l.length = 96 /\ pO l ≠ 0 /\ pO l ≠ 2)), .tp [.ag [.c (.int .u64 0), .c (.int .u64 0), .c (.int .u64 0), .c (.int .u64 0), .c (.int .u64 0), .c (.int .u64 0), .c (.int .u64 0), .c (.int .u64 0), .c (.int .u64 0), .c (.int .u64 0), .c (.int .u64 0), .c (.int .u64 0), .c (.bool false)], vi0 32]), (some (((l.length = 48 /\ pO l = 6) ∨ (l.length = 96 /\ pO l = 2)) /\ ¬ sP (pJ l)), .tp [.ag [.c (.int .u64 0), .c (.int .u64 0), .c (.int .u64 0), .c (.int .u64 0), .c (.int .u64 0), .c (.int .u64 0), .c (.int .u64 0), .c (.int .u64 0), .c (.int .u64 0), .c (.int .u64 0), .c (.int .u64 0), .c (.int .u64 0), .c (.bool false)], vi0 33]), (some (((l.length = 48 /\ pO l = 6) ∨ (l.length = 96 /\ pO l = 2)) /\ sP (pJ l)), .tp [.ag [.c (.int .u64 0), .c (.int .u64 0), .c (.int .u64 0), .c (.int .u64 0), .c (.int .u64 0), .c (.int .u64 0), .c (.int .u64 0), .c (.int .u64 0), .c (.int .u64 0), .c (.int .u64 0), .c (.int .u64 0), .c (.int .u64 0), .c (.bool true)], vi0 0]), (some (sh1 l /\ ¬ nX l < Pp), .tp [.ag [.c (.int .u64 0), .c (.int .u64 0), .c (.int .u64 0), .c (.int .u64 0), .c (.int .u64 0), .c (.int .u64 0), .c (.int .u64 0), .c (.int .u64 0), .c (.int .u64 0), .c (.int .u64 0), .c (.int .u64 0), .c (.int .u64 0), .c (.bool false)], vi0 20]), (some (sh1 l /\ nX l < Pp /\ ¬ sqP (tx (ofP (nX l)))), .tp [.ag [.c (.int .u64 0), .c (.int .u64 0), .c (.int .u64 0), .c (.int .u64 0), .c (.int .u64 0), .c (.int .u64 0), .c (.int .u64 0), .c (.int .u64 0), .c (.int .u64 0), .c (.int .u64 0), .c (.int .u64 0), .c (.int .u64 0), .c (.bool false)], vi0 30]), (some (sh1 l /\ nX l < Pp /\ sqP (tx (ofP (nX l))) /\ ¬ q7 ((ofP (nX l)).val, (sy1 (tx (ofP (nX l))) (decide (pO l = 5))).val, false)), .tp [.ag [.c (.int .u64 0), .c (.int .u64 0), .c (.int .u64 0), .c (.int .u64 0), .c (.int .u64 0), .c (.int .u64 0), .c (.int .u64 0), .c (.int .u64 0), .c (.int .u64 0), .c (.int .u64 0), .c (.int .u64 0), .c (.int .u64 0), .c (.bool false)], vi0 31]), (some (sh1 l /\ nX l < Pp /\ sqP (tx (ofP (nX l))) /\ q7 ((ofP (nX l)).val, (sy1 (tx (ofP (nX l))) (decide (pO l = 5))).val, false)), .tp [.ag [.q (ofP (nX l)), .q (sy1 (tx (ofP (nX l))) (decide (pO l = 5))), .c (.bool false)], vi0 0]), (some (lo1 l /\ ¬ (nX l < Pp /\ nY l < Pp)), .tp [.ag [.c (.int .u64 0), .c (.int .u64 0), .c (.int .u64 0), .c (.int .u64 0), .c (.int .u64 0), .c (.int .u64 0), .c (.int .u64 0), .c (.int .u64 0), .c (.int .u64 0), .c (.int .u64 0), .c (.int .u64 0), .c (.int .u64 0), .c (.bool false)], vi0 20]), (some (lo1 l /\ (nX l < Pp /\ nY l < Pp) /\ ¬ may1 ((ofP (nX l)).val, (ofP (nY l)).val, false)), .tp [.ag [.c (.int .u64 0), .c (.int .u64 0), .c (.int .u64 0), .c (.int .u64 0), .c (.int .u64 0), .c (.int .u64 0), .c (.int .u64 0), .c (.int .u64 0), .c (.int .u64 0), .c (.int .u64 0), .c (.int .u64 0), .c (.int .u64 0), .c (.bool false)], vi0 30]), (some (lo1 l /\ (nX l < Pp /\ nY l < Pp) /\ may1 ((ofP (nX l)).val, (ofP (nY l)).val, false) /\ ¬ q7 ((ofP (nX l)).val, (ofP (nY l)).val, false)), .tp [.ag [.c (.int .u64 0), .c (.int .u64 0), .c (.int .u64 0), .c (.int .u64 0), .c (.int .u64 0), .c (.int .u64 0), .c (.int .u64 0), .c (.int .u64 0), .c (.int .u64 0), .c (.int .u64 0), .c (.int .u64 0), .c (.int .u64 0), .c (.bool false)], vi0 31]), (some (lo1 l /\ (nX l < Pp /\ nY l < Pp) /\ may1 ((ofP (nX l)).val, (ofP (nY l)).val, false) /\ q7 ((ofP (nX l)).val, (ofP (nY l)).val, false)), .tp [.ag [.q (ofP (nX l)), .q (ofP (nY l)), .c (.bool false)], vi0 0])]
theorem TZ (l : LU0) : ∀ c r, (c, r) ∈ altG1 l -> c.getD True -> Gives prog 27 [.t (.v (.string (ofL l)))] r := by
 intro c x hm hc
 simp only [altG1, List.mem_cons, pi0, List.not_mem_nil, or_false] at hm
 rcases hm with ⟨rfl, rfl⟩ | ⟨rfl, rfl⟩ | ⟨rfl, rfl⟩ | ⟨rfl, rfl⟩ | ⟨rfl, rfl⟩ | ⟨rfl, rfl⟩ | ⟨rfl, rfl⟩ | ⟨rfl, rfl⟩ | ⟨rfl, rfl⟩ | ⟨rfl, rfl⟩ | ⟨rfl, rfl⟩ | ⟨rfl, rfl⟩
 ·exact V5 l hc
 ·exact Rx l hc
 ·exact PK l hc
 ·obtain ⟨h | h, hz⟩ := hc
  ·exact Wp l ⟨h, hz⟩
  ·exact UO l ⟨h, hz⟩
 ·obtain ⟨⟨hL, ht | ht⟩, h⟩ := hc
  ·exact QD l hL ht (Nat.le_of_not_lt h)
  ·exact Qs l hL ht (Nat.le_of_not_lt h)
 ·obtain ⟨⟨hL, ht | ht⟩, h, hq⟩ := hc
  ·exact Ph l hL ht h hq
  ·exact TS l hL ht h hq
 ·obtain ⟨⟨hL, ht | ht⟩, h, hq, hg⟩ := hc
  ·have e : decide (pO l = 5) = false := by rw [ht]; rfl
   rw [e] at hg
   exact Qx l hL ht h hq ⟨uY _ _ _, w6 _ false hq, hg⟩
  ·have e : decide (pO l = 5) = true := by rw [ht]; rfl
   rw [e] at hg
   exact Sz l hL ht h hq ⟨uY _ _ _, w6 _ true hq, hg⟩
 ·obtain ⟨⟨hL, ht | ht⟩, h, hq, hg⟩ := hc
  ·have e : decide (pO l = 5) = false := by rw [ht]; rfl
   rw [e] at hg ⊢
   exact Nj l hL ht h hq ⟨uY _ _ _, w6 _ false hq, hg⟩
  ·have e : decide (pO l = 5) = true := by rw [ht]; rfl
   rw [e] at hg ⊢
   exact Oq l hL ht h hq ⟨uY _ _ _, w6 _ true hq, hg⟩
 ·obtain ⟨⟨hL, ht⟩, h⟩ := hc
  by_cases h1 : nX l < Pp
  ·by_cases h2 : nY l < Pp
   ·exact absurd ⟨h1, h2⟩ h
   ·exact QO l hL ht h1 (Nat.le_of_not_lt h2)
  ·by_cases h2 : nY l < Pp
   ·exact PL l hL ht (Nat.le_of_not_lt h1) h2
   ·exact Rv l hL ht (Nat.le_of_not_lt h1) (Nat.le_of_not_lt h2)
 ·obtain ⟨⟨hL, ht⟩, ⟨h1, h2⟩, hr⟩ := hc
  exact Ul l hL ht h1 h2 ⟨uY _ _ _, hr⟩
 ·obtain ⟨⟨hL, ht⟩, ⟨h1, h2⟩, hr, hg⟩ := hc
  exact VR l hL ht h1 h2 ⟨uY _ _ _, hr, hg⟩
 ·obtain ⟨⟨hL, ht⟩, ⟨h1, h2⟩, hr, hg⟩ := hc
  exact Pc l hL ht h1 h2 ⟨uY _ _ _, hr, hg⟩
end Go.Proofs.YtokjhbmmdmeafaaGreat
