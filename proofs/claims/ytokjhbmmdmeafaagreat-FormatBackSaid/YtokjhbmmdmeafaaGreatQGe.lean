/- Pruned: Ge. -/
import Derived.Test.YtokjhbmmdmeafaaGreatQGc
set_option linter.unusedSimpArgs false
set_option linter.unusedVariables false
namespace Go.Proofs.YtokjhbmmdmeafaaGreat
open Go.Ev Go.RowKit
open Tryz
def hpC (c : Nat) (r : LU0) : List Ch := [.c (.int .u8 (c : Int)), .y r]
def hv (c : Nat) (r : LU0) (i : Nat) : Nat := ((c :: r.map UInt8.toNat)[i]?).getD 0
theorem TK (c : Nat) (r : LU0) : flat (hpC c r) = (c :: r.map UInt8.toNat).map (fun v => Value.int .u8 ((v : Nat) : Int)) := by
 unfold hpC
 rw [FZ]
 simp only [List.map_cons, List.map_map]
 rfl
theorem RF (c : Nat) (r : LU0) (i : Nat) (h : i < r.length + 1) : (flat (hpC c r))[i * 1]? = some (.int .u8 ((hv c r i : Nat) : Int)) := by
 rw [TK, Nat.mul_one, List.getElem?_map]
 have hl : i < (c :: r.map UInt8.toNat).length := by simpa using h
 unfold hv
 rw [List.getElem?_eq_getElem hl]
 rfl
theorem Tu : ∀ b : Fin 256, bits BinOp.and IntKind.u8 ((b.val : Nat) : Int) 224 = ((b.val / 32 * 32 : Nat) : Int) := by decide +kernel
theorem IG : ∀ b : Fin 256, bits BinOp.andNot IntKind.u8 ((b.val : Nat) : Int) 224 = ((b.val % 32 : Nat) : Int) := by decide +kernel
theorem Bg (b : UInt8) (f : Nat) (h : b.toNat / 32 * 32 = f) : bits BinOp.and IntKind.u8 ((b.toNat : Nat) : Int) 224 = ((f : Nat) : Int) := by
 rw [← h]; exact Tu ⟨b.toNat, UInt8.toNat_lt b⟩
theorem QN (b : UInt8) : bits BinOp.andNot IntKind.u8 ((b.toNat : Nat) : Int) 224 = ((b.toNat % 32 : Nat) : Int) := IG ⟨b.toNat, UInt8.toNat_lt b⟩
theorem IJ (b : UInt8) (r : LU0) : (flat [.c (.int .u8 ((b.toNat % 32 : Nat) : Int)), .y r]).take (ofL (b :: r)).size = (ofL (UInt8.ofNat (b.toNat % 32) :: r)).data.toList.map rf /\ (ofL (b :: r)).size = (ofL (UInt8.ofNat (b.toNat % 32) :: r)).size := by
 refine ⟨?_, rfl⟩
 rw [RW]
 show _ = rf (UInt8.ofNat (b.toNat % 32)) :: r.map rf
 congr 1
 unfold rf
 congr 1
 rw [UInt8.toNat_ofNat']
 omega
def hdI (f c : Nat) (r : LU0) (z : Int) : LState := { n := 70, sl := [(7, .v (.int .u8 (f : Int))), (8, .sx 42 (r.length + 1)), (58, .sx 42 (r.length + 1)), (59, vi0 ((r.length + 1 : Nat) : Int)), (60, vi0 z)], hp := [(42, .gr (hpC c r) 5 1)] }
def hdZ (f c : Nat) (r : LU0) : LState := { n := 70, sl := [(7, .v (.int .u8 (f : Int))), (8, .sx 42 (r.length + 1))], hp := [(42, .gr (hpC c r) 5 1)] }
def hdE : LState := { n := 70, sl := [(4, .v (.string (ofL []))), (5, .v (.int .u8 0)), (6, vi0 33)], hp := [] }
abbrev IM (a : AA) (e : Ex) (b : AA) : Prop := Sound prog 0 false (qc f57 0) a e b
theorem GV (f c : Nat) (r : LU0) (i : Nat) (hi : i < r.length + 1) (hm : r.length + 1 <= 1000) (hz : hv c r i = 0) : IM (hdI f c r (i : Int)).aa .normal (hdI f c r ((i + 1 : Nat) : Int)).aa := by
 have hs := p9 (P := prog) (X := qO _) (env := []) trivial (n := 0) (os := oL [(56, wT), (57, rO 9 i), (58, { ch := 0, hi := fun _ => 0, ru := 8, av := fun _ => .v (.int .u8 0) })]) (fb := 0) (rd := false) (c := (qc f57 0)) (k := 56) (I := hdI f c r (i : Int)) (sk := [7, 8, 58, 59, 60]) (hk := [42]) (lk := []) (ex := .normal)
  (L := hdI f c r (IntKind.i64.wrap ((i : Int) + 1))) (by kernel_rfl) (ai (show (flat (hpC c r))[i * 1]? = some (.int .u8 0) from by rw [RF c r i hi, hz]; rfl) (ai (show (i : Int) = ((i : Nat) : Int) /\ i < r.length + 1 from ⟨rfl, hi⟩) (ai (show decide ((i : Int) < ((r.length + 1 : Nat) : Int)) = true from decide_eq_true (by omega)) tt0)))
 rw [show IntKind.i64.wrap ((i : Int) + 1) = ((i + 1 : Nat) : Int) by rw [qj]; omega] at hs
 exact hs
theorem Se {c : Code} {I L : LState} {ex : Ex} {b : Prop} (o : LO0) (k : Nat) (sk hk : List Nat) (hb : b) (h : uG prog (qO _) [] 0 (oL o) 0 false c k I sk hk [] = some (ex, L, b) := by kernel_rfl) : Sound prog 0 false c I.aa ex L.aa := p9 (P := prog) (X := qO _) (env := []) trivial h hb
theorem XN (f c : Nat) (r : LU0) : IM (hdI f c r ((r.length + 1 : Nat) : Int)).aa (.exit 0) (hdZ f c r).aa :=
 Se [(56, wF)] 56 [7, 8] [42] (ai (show decide (((r.length + 1 : Nat) : Int) < ((r.length + 1 : Nat) : Int)) = false from decide_eq_false (by omega)) tt0)
theorem YM (f c : Nat) (r : LU0) (i v : Nat) (hi : i < r.length + 1) (hw : hv c r i = v) (hz : v ≠ 0) : IM (hdI f c r (i : Int)).aa .ret hdE.aa :=
 Se [(56, wT), (57, rO 9 i), (58, { ch := 0, hi := fun _ => 0, ru := 8, av := fun _ => .v (.int .u8 ((v : Nat) : Int)) }), (61, wT)] 56 [4, 5, 6] [] (ai (show (((v : Nat) : Int) != 0) = true from by simp; omega) (ai (show (flat (hpC c r))[i * 1]? = some (.int .u8 ((v : Nat) : Int)) from by rw [RF c r i hi, hw]) (ai (show (i : Int) = ((i : Nat) : Int) /\ i < r.length + 1 from ⟨rfl, hi⟩) (ai (show decide ((i : Int) < ((r.length + 1 : Nat) : Int)) = true from decide_eq_true (by omega)) tt0))))
theorem B6 (f c : Nat) (r : LU0) (hm : r.length + 1 <= 1000) (hz : ∀ i, i < r.length + 1 -> hv c r i = 0) : Sound prog 0 false (.loop (qc f57 0)) (hdI f c r 0).aa (.exit 0) (hdZ f c r).aa := by
 refine qw (m := fun y : { i : Nat // i <= r.length + 1 } => r.length + 1 - y.val) (fun y => hdI f c r (y.val : Int)) (by simp) (fun y => ?_) ⟨0, by omega⟩
 obtain ⟨i, hi⟩ := y
 by_cases h : i < r.length + 1
 ·exact .inl ⟨⟨i + 1, h⟩, by show r.length + 1 - (i + 1) < r.length + 1 - i; omega, GV f c r i h hm (hz i h)⟩
 ·have e : i = r.length + 1 := by omega
  subst e
  exact .inr (XN f c r)
theorem LO (f c : Nat) (r : LU0) (hm : r.length + 1 <= 1000) (j : Nat) (hj : j < r.length + 1) (hz : hv c r j ≠ 0) : Sound prog 0 false (.loop (qc f57 0)) (hdI f c r 0).aa .ret hdE.aa := by
 refine qw (m := fun y : { i : Nat // i <= j } => j - y.val) (fun y => hdI f c r (y.val : Int)) (by simp) (fun y => ?_) ⟨0, by omega⟩
 obtain ⟨i, hi⟩ := y
 by_cases h : hv c r i = 0
 ·have e : i ≠ j := fun e => hz (e ▸ h)
  exact .inl ⟨⟨i + 1, by omega⟩, by show j - (i + 1) < j - i; omega, GV f c r i (by omega) hm h⟩
 ·exact .inr (YM f c r i _ (by omega) rfl h)
abbrev Qy : AV := .tp [.v (.string (ofL [])), .v (.int .u8 0), vi0 3]
theorem qz {a : List XV} {r : AV} {b : Prop} (o : Nat -> Ora) (h : fnA prog (qO _) [] 0 o f57 a = some (r, b)) (hv : ∃ v, r.val? = some v) (hb : b) : Gives prog 57 a r := p6 (P := prog) (X := qO _) (env := []) trivial func57 0 o h hv hb
theorem Js (l : LU0) (h1 : l.length ≠ 48) (h2 : l.length ≠ 96) : Gives prog 57 [.t (.v (.string (ofL l))), .t (vi0 48)] Qy :=
 qz (oL [(6, wT), (12, wT)]) (by kernel_rfl) ⟨_, rfl⟩ (ai (show (((l.length : Nat) : Int) != 96) = true from by simp; omega) (ai (show (((l.length : Nat) : Int) != 48) = true from by simp; omega) tt0))
theorem Bo (b : UInt8) (r : LU0) (hL : (ofL (b :: r)).size = 48) : ((((ofL (b :: r)).size : Nat) : Int) == 48) = true := by rw [hL]; decide
theorem Kz (b : UInt8) (hf : b.toNat / 32 * 32 = 0) : bits BinOp.and IntKind.u8 ((b.toNat : Nat) : Int) 224 = ((0 : Nat) : Int) := Bg b 0 hf
theorem acf (b : UInt8) (r : LU0) (hL : (ofL (b :: r)).size = 48) : (0 : Int) <= 0 /\ (0 : Int) < (ofL (b :: r)).size /\ ((ofL (b :: r))[(0 : Int).toNat]?.getD 0).toNat = b.toNat := ⟨by decide, by rw [hL]; decide, by rw [Cd]; rfl⟩
theorem ab2 (b : UInt8) (r : LU0) (hL : (ofL (b :: r)).size = 48) : ((((ofL (b :: r)).size : Nat) : Int) != 48) = false := by rw [hL]; decide
abbrev s8 : AV := .tp [.v (.string (ofL [])), .v (.int .u8 0), vi0 32]
def yk {b : UInt8} {r : LU0} (hL : (ofL (b :: r)).size = 48) := PLift.up (ai (acf b r hL) (ai (ab2 b r hL) tt0))
def vd : Ora := { ch := 1, hi := fun _ => 0 }
theorem ND (b : UInt8) (r : LU0) (hL : (ofL (b :: r)).size = 48) (hf : b.toNat / 32 * 32 = 0) : Gives prog 57 [.t (.v (.string (ofL (b :: r)))), .t (vi0 48)] s8 :=
 qz (oL [(6, wF), (15, rO 1 b.toNat), (16, vd), (24, wT)]) (by kernel_rfl) ⟨_, rfl⟩ (ai (Bo b r hL) (ai (Kz b hf)
   (yk hL).down))
theorem LP (b : UInt8) (hf : b.toNat / 32 * 32 = 32) : bits BinOp.and IntKind.u8 ((b.toNat : Nat) : Int) 224 = ((32 : Nat) : Int) := Bg b 32 hf
def F0 : Nat × Ora := (16, { ch := 1, hi := fun _ => 32 })
theorem MC (b : UInt8) (r : LU0) (hL : (ofL (b :: r)).size = 48) (hf : b.toNat / 32 * 32 = 32) : Gives prog 57 [.t (.v (.string (ofL (b :: r)))), .t (vi0 48)] s8 :=
 qz (oL [(6, wF), (15, rO 1 b.toNat), F0, (24, wT)]) (by kernel_rfl) ⟨_, rfl⟩ (ai (Bo b r hL) (ai (LP b hf)
   (yk hL).down))
theorem LJ (b : UInt8) (hf : b.toNat / 32 * 32 = 64) : bits BinOp.and IntKind.u8 ((b.toNat : Nat) : Int) 224 = ((64 : Nat) : Int) := Bg b 64 hf
def Fv : Nat × Ora := (16, { ch := 1, hi := fun _ => 64 })
theorem Nh (b : UInt8) (r : LU0) (hL : (ofL (b :: r)).size = 48) (hf : b.toNat / 32 * 32 = 64) : Gives prog 57 [.t (.v (.string (ofL (b :: r)))), .t (vi0 48)] s8 :=
 qz (oL [(6, wF), (15, rO 1 b.toNat), Fv, (24, wT)]) (by kernel_rfl) ⟨_, rfl⟩ (ai (Bo b r hL) (ai (LJ b hf)
   (yk hL).down))
theorem Ky (b : UInt8) (hf : b.toNat / 32 * 32 = 96) : bits BinOp.and IntKind.u8 ((b.toNat : Nat) : Int) 224 = ((96 : Nat) : Int) := Bg b 96 hf
def zc : Ora := { ch := 1, hi := fun _ => 96 }
theorem MF (b : UInt8) (r : LU0) (hL : (ofL (b :: r)).size = 48) (hf : b.toNat / 32 * 32 = 96) : Gives prog 57 [.t (.v (.string (ofL (b :: r)))), .t (vi0 48)] s8 :=
 qz (oL [(6, wF), (15, rO 1 b.toNat), (16, zc), (24, wT)]) (by kernel_rfl) ⟨_, rfl⟩ (ai (Bo b r hL) (ai (Ky b hf)
   (yk hL).down))
theorem yT (b : UInt8) (r : LU0) : (flat [.c (.int .u8 ((b.toNat % 32 : Nat) : Int)), .y r]).take (ofL (b :: r)).size = (ofL (UInt8.ofNat (b.toNat % 32) :: r)).data.toList.map rf /\ (ofL (b :: r)).size = (ofL (UInt8.ofNat (b.toNat % 32) :: r)).size := IJ b r
theorem tB (b : UInt8) (r : LU0) : (0 : Int) = ((0 : Nat) : Int) /\ 0 < (ofL (b :: r)).size := ⟨rfl, Nat.succ_pos _⟩
theorem yZ (b : UInt8) : bits BinOp.andNot IntKind.u8 ((b.toNat : Nat) : Int) 224 = ((b.toNat % 32 : Nat) : Int) := QN b
theorem vU (b : UInt8) (r : LU0) : flat [.c (rf b), .y r] = (ofL (b :: r)).data.toList.map rf := FZ _ _
theorem Fu (b : UInt8) (hf : b.toNat / 32 * 32 = 128) : bits BinOp.and IntKind.u8 ((b.toNat : Nat) : Int) 224 = ((128 : Nat) : Int) := Bg b 128 hf
def Dt (b : UInt8) (r : LU0) : Nat × Ora := (42, { ch := 0, hi := fun _ => 0, ex := 2, cs := fun _ => [.c (rf b), .y r] })
def Ig (b : UInt8) (r : LU0) : Ora := { ch := 0, hi := fun _ => 0, ru := 10, av := fun _ => .v (.string (ofL (UInt8.ofNat (b.toNat % 32) :: r))) }
def zt (b : UInt8) : Nat × Ora := (47, { ch := 1, hi := fun _ => b.toNat % 32 })
def zj : Nat × Ora := (49, { ch := 0, hi := fun _ => 0, ex := 3 })
def I8 : Nat × Ora := (16, { ch := 1, hi := fun _ => 128 })
def PH (b : UInt8) (r : LU0) : LO0 := [(6, wF), (15, rO 1 b.toNat), I8, (24, wT), (Dt b r), (45, rO 9 0), (zt b), (48, rO 9 0), zj, (54, (Ig b r))]
theorem Np (b : UInt8) (r : LU0) (hL : (ofL (b :: r)).size = 48) (hf : b.toNat / 32 * 32 = 128) : Gives prog 57 [.t (.v (.string (ofL (b :: r)))), .t (vi0 48)] (.tp [.v (.string (ofL (UInt8.ofNat (b.toNat % 32) :: r))), .v (.int .u8 128), vi0 0]) :=
 qz (oL (PH b r)) (by kernel_rfl) ⟨_, rfl⟩ (ai (yT b r) (ai (tB b r) (ai (yZ b) (ai (tB b r) (ai (vU b r) (ai (Bo b r hL) (ai (Fu b hf)
   (yk hL).down)))))))
theorem E7 (b : UInt8) (hf : b.toNat / 32 * 32 = 160) : bits BinOp.and IntKind.u8 ((b.toNat : Nat) : Int) 224 = ((160 : Nat) : Int) := Bg b 160 hf
def IL : Nat × Ora := (16, { ch := 1, hi := fun _ => 160 })
def Qm (b : UInt8) (r : LU0) : LO0 := [(6, wF), (15, rO 1 b.toNat), IL, (24, wT), (Dt b r), (45, rO 9 0), (zt b), (48, rO 9 0), zj, (54, (Ig b r))]
theorem LX (b : UInt8) (r : LU0) (hL : (ofL (b :: r)).size = 48) (hf : b.toNat / 32 * 32 = 160) : Gives prog 57 [.t (.v (.string (ofL (b :: r)))), .t (vi0 48)] (.tp [.v (.string (ofL (UInt8.ofNat (b.toNat % 32) :: r))), .v (.int .u8 160), vi0 0]) :=
 qz (oL (Qm b r)) (by kernel_rfl) ⟨_, rfl⟩ (ai (yT b r) (ai (tB b r) (ai (yZ b) (ai (tB b r) (ai (vU b r) (ai (Bo b r hL) (ai (E7 b hf)
   (yk hL).down)))))))
theorem EW (b : UInt8) (r : LU0) : some (hdI 192 (b.toNat % 32) r 0) = some (hdI 192 (b.toNat % 32) r 0) := rfl
theorem Gy (b : UInt8) (hf : b.toNat / 32 * 32 = 192) : bits BinOp.and IntKind.u8 ((b.toNat : Nat) : Int) 224 = ((192 : Nat) : Int) := Bg b 192 hf
def F1 : Nat × Ora := (16, { ch := 1, hi := fun _ => 192 })
def OF (b : UInt8) (r : LU0) : LO0 := [(6, wF), (15, rO 1 b.toNat), F1, (24, wT), (Dt b r), (45, rO 9 0), (zt b), (48, rO 9 0), zj, (56, lpO { I := hdI 192 (b.toNat % 32) r 0, ex := .exit 0, E := hdZ 192 (b.toNat % 32) r, fr := 57 }), (58, (Ig b r))]
def Su {b : UInt8} {r : LU0} (hL : (ofL (b :: r)).size = 48) (hf : b.toNat / 32 * 32 = 192) := PLift.up (ai (tB b r) (ai (yZ b) (ai (tB b r) (ai (vU b r) (ai (Bo b r hL) (ai (Gy b hf)
   (yk hL).down))))))
theorem Jt (b : UInt8) (r : LU0) (hL : (ofL (b :: r)).size = 48) (hf : b.toNat / 32 * 32 = 192) (hz : ∀ i, i < r.length + 1 -> hv (b.toNat % 32) r i = 0) : Gives prog 57 [.t (.v (.string (ofL (b :: r)))), .t (vi0 48)] (.tp [.v (.string (ofL (UInt8.ofNat (b.toNat % 32) :: r))), .v (.int .u8 192), vi0 0]) :=
 qz (oL (OF b r)) (by kernel_rfl) ⟨_, rfl⟩ (ai (yT b r) (ai (EW b r) (ai (B6 192 (b.toNat % 32) r (show r.length + 1 <= 1000 from by have h : r.length + 1 = 48 := hL; omega) hz)
   (Su hL hf).down)))
def Q8 (b : UInt8) (r : LU0) : LO0 := [(6, wF), (15, rO 1 b.toNat), F1, (24, wT), (Dt b r), (45, rO 9 0), (zt b), (48, rO 9 0), zj, (56, lpO { I := hdI 192 (b.toNat % 32) r 0, ex := .ret, E := hdE, fr := 57 })]
abbrev FI : AV := .tp [.v (.string (ofL [])), .v (.int .u8 0), vi0 33]
theorem Ja (b : UInt8) (r : LU0) (hL : (ofL (b :: r)).size = 48) (hf : b.toNat / 32 * 32 = 192) (j : Nat) (hj : j < r.length + 1) (hz : hv (b.toNat % 32) r j ≠ 0) : Gives prog 57 [.t (.v (.string (ofL (b :: r)))), .t (vi0 48)] FI :=
 qz (oL (Q8 b r)) (by kernel_rfl) ⟨_, rfl⟩ (ai (EW b r) (ai (LO 192 (b.toNat % 32) r (show r.length + 1 <= 1000 from by have h : r.length + 1 = 48 := hL; omega) j hj hz)
   (Su hL hf).down))
theorem Fs (b : UInt8) (hf : b.toNat / 32 * 32 = 224) : bits BinOp.and IntKind.u8 ((b.toNat : Nat) : Int) 224 = ((224 : Nat) : Int) := Bg b 224 hf
def Fh : Nat × Ora := (16, { ch := 1, hi := fun _ => 224 })
theorem M5 (b : UInt8) (r : LU0) (hL : (ofL (b :: r)).size = 48) (hf : b.toNat / 32 * 32 = 224) : Gives prog 57 [.t (.v (.string (ofL (b :: r)))), .t (vi0 48)] s8 :=
 qz (oL [(6, wF), (15, rO 1 b.toNat), Fh, (24, wT)]) (by kernel_rfl) ⟨_, rfl⟩ (ai (Bo b r hL) (ai (Fs b hf)
   (yk hL).down))
theorem xL (b : UInt8) (r : LU0) (hL : (ofL (b :: r)).size = 96) : ((((ofL (b :: r)).size : Nat) : Int) == 48) = false := by rw [hL]; decide
theorem RK (b : UInt8) (r : LU0) (hL : (ofL (b :: r)).size = 96) : (0 : Int) <= 0 /\ (0 : Int) < (ofL (b :: r)).size /\ ((ofL (b :: r))[(0 : Int).toNat]?.getD 0).toNat = b.toNat := ⟨by decide, by rw [hL]; decide, by rw [Cd]; rfl⟩
theorem QQ (b : UInt8) (r : LU0) (hL : (ofL (b :: r)).size = 96) : ((((ofL (b :: r)).size : Nat) : Int) != 96) = false := by rw [hL]; decide
theorem WV (b : UInt8) (r : LU0) (hL : (ofL (b :: r)).size = 96) : ((((ofL (b :: r)).size : Nat) : Int) != 48) = true := by rw [hL]; decide
def BB {b : UInt8} {r : LU0} (hL : (ofL (b :: r)).size = 96) := PLift.up (ai (RK b r hL) (ai (QQ b r hL) (ai (WV b r hL) tt0)))
abbrev PL (b : UInt8) (r : LU0) := oL [(6, wT), (12, wF), (15, rO 1 b.toNat), (16, vd), (24, wF), (Dt b r), (45, rO 9 0), (zt b), (48, rO 9 0), zj, (54, (Ig b r))]
theorem L9 (b : UInt8) (r : LU0) (hL : (ofL (b :: r)).size = 96) (hf : b.toNat / 32 * 32 = 0) : Gives prog 57 [.t (.v (.string (ofL (b :: r)))), .t (vi0 48)] (.tp [.v (.string (ofL (UInt8.ofNat (b.toNat % 32) :: r))), .v (.int .u8 0), vi0 0]) :=
 qz (PL b r) (by kernel_rfl) ⟨_, rfl⟩ (ai (yT b r) (ai (tB b r) (ai (yZ b) (ai (tB b r) (ai (vU b r) (ai (xL b r hL) (ai (Kz b hf)
   (BB hL).down)))))))
def uD (b : UInt8) : LO0 := [(6, wT), (12, wF), (15, rO 1 b.toNat)]
theorem MS (b : UInt8) (r : LU0) (hL : (ofL (b :: r)).size = 96) (hf : b.toNat / 32 * 32 = 32) : Gives prog 57 [.t (.v (.string (ofL (b :: r)))), .t (vi0 48)] s8 :=
 qz (oL ((uD b) ++ [F0, (24, wF)])) (by kernel_rfl) ⟨_, rfl⟩ (ai (xL b r hL) (ai (LP b hf)
   (BB hL).down))
theorem Fe (b : UInt8) (r : LU0) : some (hdI 64 (b.toNat % 32) r 0) = some (hdI 64 (b.toNat % 32) r 0) := rfl
def Qt (b : UInt8) (r : LU0) : LO0 := [(6, wT), (12, wF), (15, rO 1 b.toNat), Fv, (24, wF), (Dt b r), (45, rO 9 0), (zt b), (48, rO 9 0), zj, (56, lpO { I := hdI 64 (b.toNat % 32) r 0, ex := .exit 0, E := hdZ 64 (b.toNat % 32) r, fr := 57 }), (58, (Ig b r))]
def O7 {b : UInt8} {r : LU0} (hL : (ofL (b :: r)).size = 96) (hf : b.toNat / 32 * 32 = 64) := PLift.up (ai (tB b r) (ai (yZ b) (ai (tB b r) (ai (vU b r) (ai (xL b r hL) (ai (LJ b hf)
   (BB hL).down))))))
theorem Kj (b : UInt8) (r : LU0) (hL : (ofL (b :: r)).size = 96) (hf : b.toNat / 32 * 32 = 64) (hz : ∀ i, i < r.length + 1 -> hv (b.toNat % 32) r i = 0) : Gives prog 57 [.t (.v (.string (ofL (b :: r)))), .t (vi0 48)] (.tp [.v (.string (ofL (UInt8.ofNat (b.toNat % 32) :: r))), .v (.int .u8 64), vi0 0]) :=
 qz (oL (Qt b r)) (by kernel_rfl) ⟨_, rfl⟩ (ai (yT b r) (ai (Fe b r) (ai (B6 64 (b.toNat % 32) r (show r.length + 1 <= 1000 from by have h : r.length + 1 = 96 := hL; omega) hz)
   (O7 hL hf).down)))
def PX (b : UInt8) (r : LU0) : LO0 := [(6, wT), (12, wF), (15, rO 1 b.toNat), Fv, (24, wF), (Dt b r), (45, rO 9 0), (zt b), (48, rO 9 0), zj, (56, lpO { I := hdI 64 (b.toNat % 32) r 0, ex := .ret, E := hdE, fr := 57 })]
theorem JG (b : UInt8) (r : LU0) (hL : (ofL (b :: r)).size = 96) (hf : b.toNat / 32 * 32 = 64) (j : Nat) (hj : j < r.length + 1) (hz : hv (b.toNat % 32) r j ≠ 0) : Gives prog 57 [.t (.v (.string (ofL (b :: r)))), .t (vi0 48)] FI :=
 qz (oL (PX b r)) (by kernel_rfl) ⟨_, rfl⟩ (ai (Fe b r) (ai (LO 64 (b.toNat % 32) r (show r.length + 1 <= 1000 from by have h : r.length + 1 = 96 := hL; omega) j hj hz)
   (O7 hL hf).down))
theorem L8 (b : UInt8) (r : LU0) (hL : (ofL (b :: r)).size = 96) (hf : b.toNat / 32 * 32 = 96) : Gives prog 57 [.t (.v (.string (ofL (b :: r)))), .t (vi0 48)] s8 :=
 qz (oL ((uD b) ++ [(16, zc), (24, wF)])) (by kernel_rfl) ⟨_, rfl⟩ (ai (xL b r hL) (ai (Ky b hf)
   (BB hL).down))
theorem Mb (b : UInt8) (r : LU0) (hL : (ofL (b :: r)).size = 96) (hf : b.toNat / 32 * 32 = 128) : Gives prog 57 [.t (.v (.string (ofL (b :: r)))), .t (vi0 48)] s8 :=
 qz (oL ((uD b) ++ [I8, (24, wF)])) (by kernel_rfl) ⟨_, rfl⟩ (ai (xL b r hL) (ai (Fu b hf)
   (BB hL).down))
theorem Nk (b : UInt8) (r : LU0) (hL : (ofL (b :: r)).size = 96) (hf : b.toNat / 32 * 32 = 160) : Gives prog 57 [.t (.v (.string (ofL (b :: r)))), .t (vi0 48)] s8 :=
 qz (oL ((uD b) ++ [IL, (24, wF)])) (by kernel_rfl) ⟨_, rfl⟩ (ai (xL b r hL) (ai (E7 b hf)
   (BB hL).down))
theorem MO (b : UInt8) (r : LU0) (hL : (ofL (b :: r)).size = 96) (hf : b.toNat / 32 * 32 = 192) : Gives prog 57 [.t (.v (.string (ofL (b :: r)))), .t (vi0 48)] s8 :=
 qz (oL ((uD b) ++ [F1, (24, wF)])) (by kernel_rfl) ⟨_, rfl⟩ (ai (xL b r hL) (ai (Gy b hf)
   (BB hL).down))
theorem LV (b : UInt8) (r : LU0) (hL : (ofL (b :: r)).size = 96) (hf : b.toNat / 32 * 32 = 224) : Gives prog 57 [.t (.v (.string (ofL (b :: r)))), .t (vi0 48)] s8 :=
 qz (oL ((uD b) ++ [Fh, (24, wF)])) (by kernel_rfl) ⟨_, rfl⟩ (ai (xL b r hL) (ai (Fs b hf)
   (BB hL).down))
theorem Kf (l : LU0) (h1 : l.length ≠ 96) (h2 : l.length ≠ 192) : Gives prog 57 [.t (.v (.string (ofL l))), .t (vi0 96)] Qy :=
 qz (oL [(6, wT), (12, wT)]) (by kernel_rfl) ⟨_, rfl⟩ (ai (show (((l.length : Nat) : Int) != 192) = true from by simp; omega) (ai (show (((l.length : Nat) : Int) != 96) = true from by simp; omega) tt0))
theorem yi (b : UInt8) (r : LU0) (hL : (ofL (b :: r)).size = 96) : ((((ofL (b :: r)).size : Nat) : Int) == 96) = true := by rw [hL]; decide
def xR {b : UInt8} {r : LU0} (hL : (ofL (b :: r)).size = 96) := PLift.up (ai (RK b r hL) (ai (QQ b r hL) tt0))
theorem LU (b : UInt8) (r : LU0) (hL : (ofL (b :: r)).size = 96) (hf : b.toNat / 32 * 32 = 0) : Gives prog 57 [.t (.v (.string (ofL (b :: r)))), .t (vi0 96)] s8 :=
 qz (oL [(6, wF), (15, rO 1 b.toNat), (16, vd), (24, wT)]) (by kernel_rfl) ⟨_, rfl⟩ (ai (yi b r hL) (ai (Kz b hf)
   (xR hL).down))
theorem Ns (b : UInt8) (r : LU0) (hL : (ofL (b :: r)).size = 96) (hf : b.toNat / 32 * 32 = 32) : Gives prog 57 [.t (.v (.string (ofL (b :: r)))), .t (vi0 96)] s8 :=
 qz (oL [(6, wF), (15, rO 1 b.toNat), F0, (24, wT)]) (by kernel_rfl) ⟨_, rfl⟩ (ai (yi b r hL) (ai (LP b hf)
   (xR hL).down))
theorem L5 (b : UInt8) (r : LU0) (hL : (ofL (b :: r)).size = 96) (hf : b.toNat / 32 * 32 = 64) : Gives prog 57 [.t (.v (.string (ofL (b :: r)))), .t (vi0 96)] s8 :=
 qz (oL [(6, wF), (15, rO 1 b.toNat), Fv, (24, wT)]) (by kernel_rfl) ⟨_, rfl⟩ (ai (yi b r hL) (ai (LJ b hf)
   (xR hL).down))
theorem Nb (b : UInt8) (r : LU0) (hL : (ofL (b :: r)).size = 96) (hf : b.toNat / 32 * 32 = 96) : Gives prog 57 [.t (.v (.string (ofL (b :: r)))), .t (vi0 96)] s8 :=
 qz (oL [(6, wF), (15, rO 1 b.toNat), (16, zc), (24, wT)]) (by kernel_rfl) ⟨_, rfl⟩ (ai (yi b r hL) (ai (Ky b hf)
   (xR hL).down))
theorem Mx (b : UInt8) (r : LU0) (hL : (ofL (b :: r)).size = 96) (hf : b.toNat / 32 * 32 = 128) : Gives prog 57 [.t (.v (.string (ofL (b :: r)))), .t (vi0 96)] (.tp [.v (.string (ofL (UInt8.ofNat (b.toNat % 32) :: r))), .v (.int .u8 128), vi0 0]) :=
 qz (oL (PH b r)) (by kernel_rfl) ⟨_, rfl⟩ (ai (yT b r) (ai (tB b r) (ai (yZ b) (ai (tB b r) (ai (vU b r) (ai (yi b r hL) (ai (Fu b hf)
   (xR hL).down)))))))
theorem MR (b : UInt8) (r : LU0) (hL : (ofL (b :: r)).size = 96) (hf : b.toNat / 32 * 32 = 160) : Gives prog 57 [.t (.v (.string (ofL (b :: r)))), .t (vi0 96)] (.tp [.v (.string (ofL (UInt8.ofNat (b.toNat % 32) :: r))), .v (.int .u8 160), vi0 0]) :=
 qz (oL (Qm b r)) (by kernel_rfl) ⟨_, rfl⟩ (ai (yT b r) (ai (tB b r) (ai (yZ b) (ai (tB b r) (ai (vU b r) (ai (yi b r hL) (ai (E7 b hf)
   (xR hL).down)))))))
def QO {b : UInt8} {r : LU0} (hL : (ofL (b :: r)).size = 96) (hf : b.toNat / 32 * 32 = 192) := PLift.up (ai (tB b r) (ai (yZ b) (ai (tB b r) (ai (vU b r) (ai (yi b r hL) (ai (Gy b hf)
   (xR hL).down))))))
theorem Kh (b : UInt8) (r : LU0) (hL : (ofL (b :: r)).size = 96) (hf : b.toNat / 32 * 32 = 192) (hz : ∀ i, i < r.length + 1 -> hv (b.toNat % 32) r i = 0) : Gives prog 57 [.t (.v (.string (ofL (b :: r)))), .t (vi0 96)] (.tp [.v (.string (ofL (UInt8.ofNat (b.toNat % 32) :: r))), .v (.int .u8 192), vi0 0]) :=
 qz (oL (OF b r)) (by kernel_rfl) ⟨_, rfl⟩ (ai (yT b r) (ai (EW b r) (ai (B6 192 (b.toNat % 32) r (show r.length + 1 <= 1000 from by have h : r.length + 1 = 96 := hL; omega) hz)
   (QO hL hf).down)))
theorem Jn (b : UInt8) (r : LU0) (hL : (ofL (b :: r)).size = 96) (hf : b.toNat / 32 * 32 = 192) (j : Nat) (hj : j < r.length + 1) (hz : hv (b.toNat % 32) r j ≠ 0) : Gives prog 57 [.t (.v (.string (ofL (b :: r)))), .t (vi0 96)] FI :=
 qz (oL (Q8 b r)) (by kernel_rfl) ⟨_, rfl⟩ (ai (EW b r) (ai (LO 192 (b.toNat % 32) r (show r.length + 1 <= 1000 from by have h : r.length + 1 = 96 := hL; omega) j hj hz)
   (QO hL hf).down))
theorem NH (b : UInt8) (r : LU0) (hL : (ofL (b :: r)).size = 96) (hf : b.toNat / 32 * 32 = 224) : Gives prog 57 [.t (.v (.string (ofL (b :: r)))), .t (vi0 96)] s8 :=
 qz (oL [(6, wF), (15, rO 1 b.toNat), Fh, (24, wT)]) (by kernel_rfl) ⟨_, rfl⟩ (ai (yi b r hL) (ai (Fs b hf)
   (xR hL).down))
theorem xM (b : UInt8) (r : LU0) (hL : (ofL (b :: r)).size = 192) : ((((ofL (b :: r)).size : Nat) : Int) == 96) = false := by rw [hL]; decide
theorem Yf (b : UInt8) (r : LU0) (hL : (ofL (b :: r)).size = 192) : (0 : Int) <= 0 /\ (0 : Int) < (ofL (b :: r)).size /\ ((ofL (b :: r))[(0 : Int).toNat]?.getD 0).toNat = b.toNat := ⟨by decide, by rw [hL]; decide, by rw [Cd]; rfl⟩
theorem X8 (b : UInt8) (r : LU0) (hL : (ofL (b :: r)).size = 192) : ((((ofL (b :: r)).size : Nat) : Int) != 192) = false := by rw [hL]; decide
theorem Xz (b : UInt8) (r : LU0) (hL : (ofL (b :: r)).size = 192) : ((((ofL (b :: r)).size : Nat) : Int) != 96) = true := by rw [hL]; decide
def BE {b : UInt8} {r : LU0} (hL : (ofL (b :: r)).size = 192) := PLift.up (ai (Yf b r hL) (ai (X8 b r hL) (ai (Xz b r hL) tt0)))
theorem NU (b : UInt8) (r : LU0) (hL : (ofL (b :: r)).size = 192) (hf : b.toNat / 32 * 32 = 0) : Gives prog 57 [.t (.v (.string (ofL (b :: r)))), .t (vi0 96)] (.tp [.v (.string (ofL (UInt8.ofNat (b.toNat % 32) :: r))), .v (.int .u8 0), vi0 0]) :=
 qz (PL b r) (by kernel_rfl) ⟨_, rfl⟩ (ai (yT b r) (ai (tB b r) (ai (yZ b) (ai (tB b r) (ai (vU b r) (ai (xM b r hL) (ai (Kz b hf)
   (BE hL).down)))))))
theorem M4 (b : UInt8) (r : LU0) (hL : (ofL (b :: r)).size = 192) (hf : b.toNat / 32 * 32 = 32) : Gives prog 57 [.t (.v (.string (ofL (b :: r)))), .t (vi0 96)] s8 :=
 qz (oL ((uD b) ++ [F0, (24, wF)])) (by kernel_rfl) ⟨_, rfl⟩ (ai (xM b r hL) (ai (LP b hf)
   (BE hL).down))
def Sy {b : UInt8} {r : LU0} (hL : (ofL (b :: r)).size = 192) (hf : b.toNat / 32 * 32 = 64) := PLift.up (ai (tB b r) (ai (yZ b) (ai (tB b r) (ai (vU b r) (ai (xM b r hL) (ai (LJ b hf)
   (BE hL).down))))))
theorem JP (b : UInt8) (r : LU0) (hL : (ofL (b :: r)).size = 192) (hf : b.toNat / 32 * 32 = 64) (hz : ∀ i, i < r.length + 1 -> hv (b.toNat % 32) r i = 0) : Gives prog 57 [.t (.v (.string (ofL (b :: r)))), .t (vi0 96)] (.tp [.v (.string (ofL (UInt8.ofNat (b.toNat % 32) :: r))), .v (.int .u8 64), vi0 0]) :=
 qz (oL (Qt b r)) (by kernel_rfl) ⟨_, rfl⟩ (ai (yT b r) (ai (Fe b r) (ai (B6 64 (b.toNat % 32) r (show r.length + 1 <= 1000 from by have h : r.length + 1 = 192 := hL; omega) hz)
   (Sy hL hf).down)))
theorem I9 (b : UInt8) (r : LU0) (hL : (ofL (b :: r)).size = 192) (hf : b.toNat / 32 * 32 = 64) (j : Nat) (hj : j < r.length + 1) (hz : hv (b.toNat % 32) r j ≠ 0) : Gives prog 57 [.t (.v (.string (ofL (b :: r)))), .t (vi0 96)] FI :=
 qz (oL (PX b r)) (by kernel_rfl) ⟨_, rfl⟩ (ai (Fe b r) (ai (LO 64 (b.toNat % 32) r (show r.length + 1 <= 1000 from by have h : r.length + 1 = 192 := hL; omega) j hj hz)
   (Sy hL hf).down))
theorem NO (b : UInt8) (r : LU0) (hL : (ofL (b :: r)).size = 192) (hf : b.toNat / 32 * 32 = 96) : Gives prog 57 [.t (.v (.string (ofL (b :: r)))), .t (vi0 96)] s8 :=
 qz (oL ((uD b) ++ [(16, zc), (24, wF)])) (by kernel_rfl) ⟨_, rfl⟩ (ai (xM b r hL) (ai (Ky b hf)
   (BE hL).down))
theorem Nu (b : UInt8) (r : LU0) (hL : (ofL (b :: r)).size = 192) (hf : b.toNat / 32 * 32 = 128) : Gives prog 57 [.t (.v (.string (ofL (b :: r)))), .t (vi0 96)] s8 :=
 qz (oL ((uD b) ++ [I8, (24, wF)])) (by kernel_rfl) ⟨_, rfl⟩ (ai (xM b r hL) (ai (Fu b hf)
   (BE hL).down))
theorem L7 (b : UInt8) (r : LU0) (hL : (ofL (b :: r)).size = 192) (hf : b.toNat / 32 * 32 = 160) : Gives prog 57 [.t (.v (.string (ofL (b :: r)))), .t (vi0 96)] s8 :=
 qz (oL ((uD b) ++ [IL, (24, wF)])) (by kernel_rfl) ⟨_, rfl⟩ (ai (xM b r hL) (ai (E7 b hf)
   (BE hL).down))
theorem NR (b : UInt8) (r : LU0) (hL : (ofL (b :: r)).size = 192) (hf : b.toNat / 32 * 32 = 192) : Gives prog 57 [.t (.v (.string (ofL (b :: r)))), .t (vi0 96)] s8 :=
 qz (oL ((uD b) ++ [F1, (24, wF)])) (by kernel_rfl) ⟨_, rfl⟩ (ai (xM b r hL) (ai (Gy b hf)
   (BE hL).down))
theorem Nz (b : UInt8) (r : LU0) (hL : (ofL (b :: r)).size = 192) (hf : b.toNat / 32 * 32 = 224) : Gives prog 57 [.t (.v (.string (ofL (b :: r)))), .t (vi0 96)] s8 :=
 qz (oL ((uD b) ++ [Fh, (24, wF)])) (by kernel_rfl) ⟨_, rfl⟩ (ai (xM b r hL) (ai (Fs b hf)
   (BE hL).down))
theorem QP (b : UInt8) (r : LU0) : (pY (b :: r)).map UInt8.toNat = b.toNat % 32 :: r.map UInt8.toNat := by
 show (UInt8.ofNat (b.toNat % 32)).toNat :: r.map UInt8.toNat = _
 rw [UInt8.toNat_ofNat', show b.toNat % 32 % 2 ^ 8 = b.toNat % 32 by omega]
theorem xJ (b : UInt8) (r : LU0) : te (pY (b :: r)) ↔ ∀ i, i < r.length + 1 -> hv (b.toNat % 32) r i = 0 := by
 unfold hv
 rw [← QP]
 have hl : (pY (b :: r)).length = r.length + 1 := rfl
 constructor
 ·intro h i hi
  have hi' : i < (pY (b :: r)).length := by omega
  rw [List.getElem?_map, List.getElem?_eq_getElem hi', h _ (List.getElem_mem hi')]
  rfl
 ·intro h x hx
  obtain ⟨i, hi, rfl⟩ := List.mem_iff_getElem.1 hx
  have h1 := h i (by omega)
  rw [List.getElem?_map, List.getElem?_eq_getElem hi] at h1
  exact UInt8.toNat_inj.1 h1
theorem H5 (b : UInt8) (r : LU0) (h : ¬ te (pY (b :: r))) : ∃ j, j < r.length + 1 /\ hv (b.toNat % 32) r j ≠ 0 := by
 refine Classical.byContradiction fun hn => h ((xJ b r).2 fun i hi => Classical.byContradiction fun hz => hn ⟨i, hi, hz⟩)
def Fp (l : LU0) : uF := [(some (l.length ≠ 48 /\ l.length ≠ 96), .tp [.v (.string (ofL [])), .v (.int .u8 0), vi0 3]), (some ((l.length = 48 /\ p7 l ≠ 4 /\ p7 l ≠ 5 /\ p7 l ≠ 6) ∨ (l.length = 96 /\ p7 l ≠ 0 /\ p7 l ≠ 2)), .tp [.v (.string (ofL [])), .v (.int .u8 0), vi0 32]), (some (((l.length = 48 /\ p7 l = 6) ∨ (l.length = 96 /\ p7 l = 2)) /\ ¬ te (pY l)), .tp [.v (.string (ofL [])), .v (.int .u8 0), vi0 33]), (some (l.length = 48 /\ p7 l = 4), .tp [.v (.string (ofL (pY l))), .v (.int .u8 128), vi0 0]), (some (l.length = 48 /\ p7 l = 5), .tp [.v (.string (ofL (pY l))), .v (.int .u8 160), vi0 0]), (some (l.length = 96 /\ p7 l = 0), .tp [.v (.string (ofL (pY l))), .v (.int .u8 0), vi0 0]), (some ((l.length = 48 /\ p7 l = 6) /\ te (pY l)), .tp [.v (.string (ofL (pY l))), .v (.int .u8 192), vi0 0]), (some ((l.length = 96 /\ p7 l = 2) /\ te (pY l)), .tp [.v (.string (ofL (pY l))), .v (.int .u8 64), vi0 0])]
def OQ : Entry := sW 57 XPar.str (XPar.int .i64) (fun l m => match decide (m = 48) with | true => Fp l | false => [])
theorem acQ (l : LU0) : ∀ c r, (c, r) ∈ Fp l -> c.getD True -> Gives prog 57 [.t (.v (.string (ofL l))), .t (vi0 48)] r := by
 intro c x hm hc
 simp only [Fp, List.mem_cons, pi0, List.not_mem_nil, or_false] at hm
 rcases hm with ⟨rfl, rfl⟩ | ⟨rfl, rfl⟩ | ⟨rfl, rfl⟩ | ⟨rfl, rfl⟩ | ⟨rfl, rfl⟩ | ⟨rfl, rfl⟩ | ⟨rfl, rfl⟩ | ⟨rfl, rfl⟩
 ·exact Js l hc.1 hc.2
 ·match l, hc with
  | [], hc => simp at hc
  | b :: r, hc =>
   have hb := UInt8.toNat_lt b
   rcases hc with ⟨hL, h4, h5, h6⟩ | ⟨hL, h0, h2⟩
   ·have h4 : b.toNat / 32 ≠ 4 := h4
    have h5 : b.toNat / 32 ≠ 5 := h5
    have h6 : b.toNat / 32 ≠ 6 := h6
    obtain h | h | h | h | h : b.toNat / 32 = 0 ∨ b.toNat / 32 = 1 ∨ b.toNat / 32 = 2 ∨ b.toNat / 32 = 3 ∨ b.toNat / 32 = 7 := by omega
    ·exact ND b r hL (by rw [h])
    ·exact MC b r hL (by rw [h])
    ·exact Nh b r hL (by rw [h])
    ·exact MF b r hL (by rw [h])
    ·exact M5 b r hL (by rw [h])
   ·have h0 : b.toNat / 32 ≠ 0 := h0
    have h2 : b.toNat / 32 ≠ 2 := h2
    obtain h | h | h | h | h | h : b.toNat / 32 = 1 ∨ b.toNat / 32 = 3 ∨ b.toNat / 32 = 4 ∨ b.toNat / 32 = 5 ∨ b.toNat / 32 = 6 ∨ b.toNat / 32 = 7 := by omega
    ·exact MS b r hL (by rw [h])
    ·exact L8 b r hL (by rw [h])
    ·exact Mb b r hL (by rw [h])
    ·exact Nk b r hL (by rw [h])
    ·exact MO b r hL (by rw [h])
    ·exact LV b r hL (by rw [h])
 ·match l, hc with
  | [], hc => simp at hc
  | b :: r, hc =>
   obtain ⟨hc, hn⟩ := hc
   obtain ⟨j, hj, hz⟩ := H5 b r hn
   rcases hc with ⟨hL, h⟩ | ⟨hL, h⟩
   ·have h : b.toNat / 32 = 6 := h
    exact Ja b r hL (by rw [h]) j hj hz
   ·have h : b.toNat / 32 = 2 := h
    exact JG b r hL (by rw [h]) j hj hz
 ·match l, hc with
  | [], hc => simp at hc
  | b :: r, hc =>
   obtain ⟨hL, h⟩ := hc
   have h : b.toNat / 32 = 4 := h
   exact Np b r hL (by rw [h])
 ·match l, hc with
  | [], hc => simp at hc
  | b :: r, hc =>
   obtain ⟨hL, h⟩ := hc
   have h : b.toNat / 32 = 5 := h
   exact LX b r hL (by rw [h])
 ·match l, hc with
  | [], hc => simp at hc
  | b :: r, hc =>
   obtain ⟨hL, h⟩ := hc
   have h : b.toNat / 32 = 0 := h
   exact L9 b r hL (by rw [h])
 ·match l, hc with
  | [], hc => simp at hc
  | b :: r, hc =>
   obtain ⟨hL, h⟩ := hc.1
   have h : b.toNat / 32 = 6 := h
   exact Jt b r hL (by rw [h]) ((xJ b r).1 hc.2)
 ·match l, hc with
  | [], hc => simp at hc
  | b :: r, hc =>
   obtain ⟨hL, h⟩ := hc.1
   have h : b.toNat / 32 = 2 := h
   exact Kj b r hL (by rw [h]) ((xJ b r).1 hc.2)
theorem O8 : OQ.OK prog := q9 (fun args w => Go.Proofs.enters_of (P := prog) func57 (by kernel_rfl) rfl args w) (fun l m c r hm hc => by
 by_cases e : m = 48
 ·subst e
  exact acQ l c r hm hc
 ·rw [decide_eq_false e] at hm
  cases hm)
def Gx (l : LU0) : uF := [(some (l.length ≠ 96 /\ l.length ≠ 192), .tp [.v (.string (ofL [])), .v (.int .u8 0), vi0 3]), (some ((l.length = 96 /\ p7 l ≠ 4 /\ p7 l ≠ 5 /\ p7 l ≠ 6) ∨ (l.length = 192 /\ p7 l ≠ 0 /\ p7 l ≠ 2)), .tp [.v (.string (ofL [])), .v (.int .u8 0), vi0 32]), (some (((l.length = 96 /\ p7 l = 6) ∨ (l.length = 192 /\ p7 l = 2)) /\ ¬ te (pY l)), .tp [.v (.string (ofL [])), .v (.int .u8 0), vi0 33]), (some (l.length = 96 /\ p7 l = 4), .tp [.v (.string (ofL (pY l))), .v (.int .u8 128), vi0 0]), (some (l.length = 96 /\ p7 l = 5), .tp [.v (.string (ofL (pY l))), .v (.int .u8 160), vi0 0]), (some (l.length = 192 /\ p7 l = 0), .tp [.v (.string (ofL (pY l))), .v (.int .u8 0), vi0 0]), (some ((l.length = 96 /\ p7 l = 6) /\ te (pY l)), .tp [.v (.string (ofL (pY l))), .v (.int .u8 192), vi0 0]), (some ((l.length = 192 /\ p7 l = 2) /\ te (pY l)), .tp [.v (.string (ofL (pY l))), .v (.int .u8 64), vi0 0])]
def RZ : Entry := sW 57 XPar.str (XPar.int .i64) (fun l m => match decide (m = 96) with | true => Gx l | false => [])
theorem aec (l : LU0) : ∀ c r, (c, r) ∈ Gx l -> c.getD True -> Gives prog 57 [.t (.v (.string (ofL l))), .t (vi0 96)] r := by
 intro c x hm hc
 simp only [Gx, List.mem_cons, pi0, List.not_mem_nil, or_false] at hm
 rcases hm with ⟨rfl, rfl⟩ | ⟨rfl, rfl⟩ | ⟨rfl, rfl⟩ | ⟨rfl, rfl⟩ | ⟨rfl, rfl⟩ | ⟨rfl, rfl⟩ | ⟨rfl, rfl⟩ | ⟨rfl, rfl⟩
 ·exact Kf l hc.1 hc.2
 ·match l, hc with
  | [], hc => simp at hc
  | b :: r, hc =>
   have hb := UInt8.toNat_lt b
   rcases hc with ⟨hL, h4, h5, h6⟩ | ⟨hL, h0, h2⟩
   ·have h4 : b.toNat / 32 ≠ 4 := h4
    have h5 : b.toNat / 32 ≠ 5 := h5
    have h6 : b.toNat / 32 ≠ 6 := h6
    obtain h | h | h | h | h : b.toNat / 32 = 0 ∨ b.toNat / 32 = 1 ∨ b.toNat / 32 = 2 ∨ b.toNat / 32 = 3 ∨ b.toNat / 32 = 7 := by omega
    ·exact LU b r hL (by rw [h])
    ·exact Ns b r hL (by rw [h])
    ·exact L5 b r hL (by rw [h])
    ·exact Nb b r hL (by rw [h])
    ·exact NH b r hL (by rw [h])
   ·have h0 : b.toNat / 32 ≠ 0 := h0
    have h2 : b.toNat / 32 ≠ 2 := h2
    obtain h | h | h | h | h | h : b.toNat / 32 = 1 ∨ b.toNat / 32 = 3 ∨ b.toNat / 32 = 4 ∨ b.toNat / 32 = 5 ∨ b.toNat / 32 = 6 ∨ b.toNat / 32 = 7 := by omega
    ·exact M4 b r hL (by rw [h])
    ·exact NO b r hL (by rw [h])
    ·exact Nu b r hL (by rw [h])
    ·exact L7 b r hL (by rw [h])
    ·exact NR b r hL (by rw [h])
    ·exact Nz b r hL (by rw [h])
 ·match l, hc with
  | [], hc => simp at hc
  | b :: r, hc =>
   obtain ⟨hc, hn⟩ := hc
   obtain ⟨j, hj, hz⟩ := H5 b r hn
   rcases hc with ⟨hL, h⟩ | ⟨hL, h⟩
   ·have h : b.toNat / 32 = 6 := h
    exact Jn b r hL (by rw [h]) j hj hz
   ·have h : b.toNat / 32 = 2 := h
    exact I9 b r hL (by rw [h]) j hj hz
 ·match l, hc with
  | [], hc => simp at hc
  | b :: r, hc =>
   obtain ⟨hL, h⟩ := hc
   have h : b.toNat / 32 = 4 := h
   exact Mx b r hL (by rw [h])
 ·match l, hc with
  | [], hc => simp at hc
  | b :: r, hc =>
   obtain ⟨hL, h⟩ := hc
   have h : b.toNat / 32 = 5 := h
   exact MR b r hL (by rw [h])
 ·match l, hc with
  | [], hc => simp at hc
  | b :: r, hc =>
   obtain ⟨hL, h⟩ := hc
   have h : b.toNat / 32 = 0 := h
   exact NU b r hL (by rw [h])
 ·match l, hc with
  | [], hc => simp at hc
  | b :: r, hc =>
   obtain ⟨hL, h⟩ := hc.1
   have h : b.toNat / 32 = 6 := h
   exact Kh b r hL (by rw [h]) ((xJ b r).1 hc.2)
 ·match l, hc with
  | [], hc => simp at hc
  | b :: r, hc =>
   obtain ⟨hL, h⟩ := hc.1
   have h : b.toNat / 32 = 2 := h
   exact JP b r hL (by rw [h]) ((xJ b r).1 hc.2)
theorem Ov : RZ.OK prog := q9 (fun args w => Go.Proofs.enters_of (P := prog) func57 (by kernel_rfl) rfl args w) (fun l m c r hm hc => by
 by_cases e : m = 96
 ·subst e
  exact aec l c r hm hc
 ·rw [decide_eq_false e] at hm
  cases hm)
end Go.Proofs.YtokjhbmmdmeafaaGreat
set_option linter.unusedSimpArgs false
set_option linter.unusedVariables false
namespace Go.Proofs.YtokjhbmmdmeafaaGreat
open Go.Ev Go.RowKit
open Tryz
theorem qd (l : LU0) : (pY l).length = l.length := by
 match l with
 | [] => rfl
 | b :: r => rfl
theorem yM (l : LU0) : (ofL (pY l)).size = l.length := qd l
theorem Ay (l : LU0) (n : Nat) : (ofL ((pY l).drop n)).size = l.length - n := by
 show ((pY l).drop n).length = _
 rw [List.length_drop, qd]
theorem JD (l : LU0) (n k : Nat) : (ofL (((pY l).drop n).drop k)).size = l.length - n - k := by
 show (((pY l).drop n).drop k).length = _
 rw [List.length_drop, List.length_drop, qd]
def nX (l : LU0) : Nat := deN 48 ((pY l).take 48)
def nY (l : LU0) : Nat := deN 48 (((pY l).drop 48).take 48)
def sy1 (a : Fin Pp) (high : Bool) : Fin Pp := match high with | true => -(lowP (rtP a)) | false => lowP (rtP a)
abbrev D5 : List Ch := [.c (.int .u64 0), .c (.int .u64 0), .c (.int .u64 0), .c (.int .u64 0), .c (.int .u64 0), .c (.int .u64 0), .c (.int .u64 0), .c (.int .u64 0), .c (.int .u64 0), .c (.int .u64 0), .c (.int .u64 0), .c (.int .u64 0), .c (.bool false)]
abbrev sv (l : LU0) : List XV := [.t (.v (.string (ofL l)))]
theorem sq {a : List XV} {r : AV} {b : Prop} (o : LO0) (hb : b) (h : fnA prog (qO _) [OQ, C7, Br, qE, rA, tO, ye, vI, vc, Bx, Ia] 2 (oL o) f27 a = some (r, b) := by kernel_rfl) (hv : ∃ v, r.val? = some v := by exact ⟨_, rfl⟩) : Gives prog 27 a r := p6 (P := prog) (X := qO _) (env := [OQ, C7, Br, qE, rA, tO, ye, vI, vc, Bx, Ia]) ⟨O8, EQ, wk, qp, qx, qK, uW, sF, sc, xF, Ix, tt0⟩ func27 2 (oL o) h hv hb
theorem UJ (l : LU0) (h : l.length ≠ 48 /\ l.length ≠ 96) : Gives prog 27 (sv l) (.tp [.ag D5, vi0 3]) :=
 sq [(3, wO 0)] (ai (show l.length ≠ 48 /\ l.length ≠ 96 from h) tt0)
theorem Qq (l : LU0) (h : (l.length = 48 /\ p7 l ≠ 4 /\ p7 l ≠ 5 /\ p7 l ≠ 6) ∨ (l.length = 96 /\ p7 l ≠ 0 /\ p7 l ≠ 2)) : Gives prog 27 (sv l) (.tp [.ag D5, vi0 32]) :=
 sq [(3, wO 1)] (ai (show (l.length = 48 /\ p7 l ≠ 4 /\ p7 l ≠ 5 /\ p7 l ≠ 6) ∨ (l.length = 96 /\ p7 l ≠ 0 /\ p7 l ≠ 2) from h) tt0)
theorem Pm (l : LU0) (h : ((l.length = 48 /\ p7 l = 6) ∨ (l.length = 96 /\ p7 l = 2)) /\ ¬ te (pY l)) : Gives prog 27 (sv l) (.tp [.ag D5, vi0 33]) :=
 sq [(3, wO 2)] (ai (show ((l.length = 48 /\ p7 l = 6) ∨ (l.length = 96 /\ p7 l = 2)) /\ ¬ te (pY l) from h) tt0)
abbrev Od : AV := .tp [.ag [.c (.int .u64 0), .c (.int .u64 0), .c (.int .u64 0), .c (.int .u64 0), .c (.int .u64 0), .c (.int .u64 0), .c (.int .u64 0), .c (.int .u64 0), .c (.int .u64 0), .c (.int .u64 0), .c (.int .u64 0), .c (.int .u64 0), .c (.bool true)], vi0 0]
theorem S5 (l : LU0) (h : (l.length = 48 /\ p7 l = 6) /\ te (pY l)) : Gives prog 27 (sv l) Od :=
 sq [(3, wO 6)] (ai (show (l.length = 48 /\ p7 l = 6) /\ te (pY l) from h) tt0)
theorem U9 (l : LU0) (h : (l.length = 96 /\ p7 l = 2) /\ te (pY l)) : Gives prog 27 (sv l) Od :=
 sq [(3, wO 7)] (ai (show (l.length = 96 /\ p7 l = 2) /\ te (pY l) from h) tt0)
theorem Fc (l : LU0) (hL : l.length = 48) : (((ofL ((pY l).drop 48)).size : Nat) : Int) = ((0 : Nat) : Int) := by rw [Ay, hL]
theorem x6 (l : LU0) (hL : l.length = 48) : (0 : Int) <= 48 /\ (48 : Int) <= (ofL (pY l)).size := ⟨by decide, by rw [yM, hL]; decide⟩
theorem Rb (l : LU0) (hL : l.length = 48) (h : 4002409555221667393417789825735904156556882819939007885332058136124031650490837864442687629129015664037894272559787 <= nX l) : ((pY l).take 48).length = 48 /\ 4002409555221667393417789825735904156556882819939007885332058136124031650490837864442687629129015664037894272559787 <= deN 48 ((pY l).take 48) := ⟨by simp only [List.length_take, List.length_drop, qd, hL]; rfl, h⟩
theorem EV (l : LU0) (hL : l.length = 48) : (((ofL (pY l)).size : Nat) : Int) = ((48 : Nat) : Int) := by rw [yM, hL]
def zs : Ora := { ch := 1, hi := fun _ => 48 }
abbrev C1 (l : LU0) : Prop := 4002409555221667393417789825735904156556882819939007885332058136124031650490837864442687629129015664037894272559787 <= nX l
abbrev Dm : AV := .tp [.ag D5, vi0 20]
theorem RH (l : LU0) (hL : l.length = 48) (ht : p7 l = 4) (h : C1 l) : Gives prog 27 (sv l) Dm :=
 sq [(3, wO 3), (29, zs), (36, rO 5 0), (37, wO 2), (45, rO 5 0), (57, vd)] (ai (Fc l hL) (ai (x6 l hL) (ai (Rb l hL h) (ai (x6 l hL) (ai (EV l hL) (ai (show l.length = 48 /\ p7 l = 4 from ⟨hL, ht⟩) tt0))))))
theorem N3 (l : LU0) (hL : l.length = 48) (h : nX l < 4002409555221667393417789825735904156556882819939007885332058136124031650490837864442687629129015664037894272559787) : ((pY l).take 48).length = 48 /\ deN 48 ((pY l).take 48) < 4002409555221667393417789825735904156556882819939007885332058136124031650490837864442687629129015664037894272559787 := ⟨by simp only [List.length_take, List.length_drop, qd, hL]; rfl, h⟩
abbrev p8 (l : LU0) := ofP (deN 48 ((pY l).take 48))
abbrev vB (l : LU0) : Prop := nX l < 4002409555221667393417789825735904156556882819939007885332058136124031650490837864442687629129015664037894272559787
def J3 {l : LU0} (hL : l.length = 48) (ht : p7 l = 4) (h : vB l) := PLift.up (ai (Fc l hL) (ai (x6 l hL) (ai (N3 l hL h) (ai (x6 l hL) (ai (EV l hL) (ai (show l.length = 48 /\ p7 l = 4 from ⟨hL, ht⟩) tt0))))))
abbrev J7 : AV := .tp [.ag D5, vi0 30]
def Jz : LO0 := [(3, wO 3), (29, zs), (36, rO 5 0), (37, wO 1), (45, rO 5 0), (57, vd)]
theorem Rh (l : LU0) (hL : l.length = 48) (ht : p7 l = 4) (h : vB l) (hq : ¬ sqP ((p8 l) * (p8 l) * (p8 l) + ofP (4 % 18446744073709551616))) : Gives prog 27 (sv l) J7 :=
 sq (Jz ++ [(92, wO 1)]) (ai (show ¬ sqP ((p8 l) * (p8 l) * (p8 l) + ofP (4 % 18446744073709551616)) from hq)
   (J3 hL ht h).down)
theorem FB (l : LU0) (hq : sqP ((ofP (deN 48 ((pY l).take 48))) * (ofP (deN 48 ((pY l).take 48))) * (ofP (deN 48 ((pY l).take 48))) + ofP (4 % 18446744073709551616))) : sqP ((ofP (deN 48 ((pY l).take 48))) * (ofP (deN 48 ((pY l).take 48))) * (ofP (deN 48 ((pY l).take 48))) + ofP (4 % 18446744073709551616)) := hq
abbrev Jj : AV := .tp [.ag D5, vi0 31]
theorem QX (l : LU0) (hL : l.length = 48) (ht : p7 l = 4) (h : vB l) (hq : sqP ((p8 l) * (p8 l) * (p8 l) + ofP (4 % 18446744073709551616))) (hg : sml1 ((p8 l).val, (lowP (rtP ((p8 l) * (p8 l) * (p8 l) + ofP (4 % 18446744073709551616)))).val, false) /\ may1 ((p8 l).val, (lowP (rtP ((p8 l) * (p8 l) * (p8 l) + ofP (4 % 18446744073709551616)))).val, false) /\ ¬ rp ((p8 l).val, (lowP (rtP ((p8 l) * (p8 l) * (p8 l) + ofP (4 % 18446744073709551616)))).val, false)) : Gives prog 27 (sv l) Jj :=
 sq (Jz ++ [(92, wO 0), (109, wO 0), (113, wO 1)]) (ai (show sml1 ((p8 l).val, (lowP (rtP ((p8 l) * (p8 l) * (p8 l) + ofP (4 % 18446744073709551616)))).val, false) /\ may1 ((p8 l).val, (lowP (rtP ((p8 l) * (p8 l) * (p8 l) + ofP (4 % 18446744073709551616)))).val, false) /\ ¬ rp ((p8 l).val, (lowP (rtP ((p8 l) * (p8 l) * (p8 l) + ofP (4 % 18446744073709551616)))).val, false) from hg) (ai (show sml1 ((p8 l).val, (lowP (rtP ((p8 l) * (p8 l) * (p8 l) + ofP (4 % 18446744073709551616)))).val, false) /\ may1 ((p8 l).val, (lowP (rtP ((p8 l) * (p8 l) * (p8 l) + ofP (4 % 18446744073709551616)))).val, false) from ⟨hg.1, hg.2.1⟩) (ai (FB l hq)
   (J3 hL ht h).down)))
theorem Nr (l : LU0) (hL : l.length = 48) (ht : p7 l = 4) (h : vB l) (hq : sqP ((p8 l) * (p8 l) * (p8 l) + ofP (4 % 18446744073709551616))) (hg : sml1 ((p8 l).val, (lowP (rtP ((p8 l) * (p8 l) * (p8 l) + ofP (4 % 18446744073709551616)))).val, false) /\ may1 ((p8 l).val, (lowP (rtP ((p8 l) * (p8 l) * (p8 l) + ofP (4 % 18446744073709551616)))).val, false) /\ rp ((p8 l).val, (lowP (rtP ((p8 l) * (p8 l) * (p8 l) + ofP (4 % 18446744073709551616)))).val, false)) : Gives prog 27 (sv l) (.tp [.ag [.q (ofP (deN 48 ((pY l).take 48))), .q (lowP (rtP ((ofP (deN 48 ((pY l).take 48))) * (ofP (deN 48 ((pY l).take 48))) * (ofP (deN 48 ((pY l).take 48))) + ofP (4 % 18446744073709551616)))), .c (.bool false)], vi0 0]) :=
 sq (Jz ++ [(92, wO 0), (109, wO 0), (113, wO 0)]) (ai (show sml1 ((p8 l).val, (lowP (rtP ((p8 l) * (p8 l) * (p8 l) + ofP (4 % 18446744073709551616)))).val, false) /\ may1 ((p8 l).val, (lowP (rtP ((p8 l) * (p8 l) * (p8 l) + ofP (4 % 18446744073709551616)))).val, false) /\ rp ((p8 l).val, (lowP (rtP ((p8 l) * (p8 l) * (p8 l) + ofP (4 % 18446744073709551616)))).val, false) from hg) (ai (show sml1 ((p8 l).val, (lowP (rtP ((p8 l) * (p8 l) * (p8 l) + ofP (4 % 18446744073709551616)))).val, false) /\ may1 ((p8 l).val, (lowP (rtP ((p8 l) * (p8 l) * (p8 l) + ofP (4 % 18446744073709551616)))).val, false) from ⟨hg.1, hg.2.1⟩) (ai (FB l hq)
   (J3 hL ht h).down)))
theorem Sw (l : LU0) (hL : l.length = 48) (ht : p7 l = 5) (h : C1 l) : Gives prog 27 (sv l) Dm :=
 sq [(3, wO 4), (29, zs), (36, rO 5 0), (37, wO 2), (45, rO 5 0), (57, vd)] (ai (Fc l hL) (ai (x6 l hL) (ai (Rb l hL h) (ai (x6 l hL) (ai (EV l hL) (ai (show l.length = 48 /\ p7 l = 5 from ⟨hL, ht⟩) tt0))))))
def J9 {l : LU0} (hL : l.length = 48) (ht : p7 l = 5) (h : vB l) := PLift.up (ai (Fc l hL) (ai (x6 l hL) (ai (N3 l hL h) (ai (x6 l hL) (ai (EV l hL) (ai (show l.length = 48 /\ p7 l = 5 from ⟨hL, ht⟩) tt0))))))
def Kl : LO0 := [(3, wO 4), (29, zs), (36, rO 5 0), (37, wO 1), (45, rO 5 0), (57, vd)]
theorem RS (l : LU0) (hL : l.length = 48) (ht : p7 l = 5) (h : vB l) (hq : ¬ sqP ((p8 l) * (p8 l) * (p8 l) + ofP (4 % 18446744073709551616))) : Gives prog 27 (sv l) J7 :=
 sq (Kl ++ [(92, wO 1)]) (ai (show ¬ sqP ((p8 l) * (p8 l) * (p8 l) + ofP (4 % 18446744073709551616)) from hq)
   (J9 hL ht h).down)
theorem Ro (l : LU0) (hL : l.length = 48) (ht : p7 l = 5) (h : vB l) (hq : sqP ((p8 l) * (p8 l) * (p8 l) + ofP (4 % 18446744073709551616))) (hg : sml1 ((p8 l).val, (-(lowP (rtP ((p8 l) * (p8 l) * (p8 l) + ofP (4 % 18446744073709551616))))).val, false) /\ may1 ((p8 l).val, (-(lowP (rtP ((p8 l) * (p8 l) * (p8 l) + ofP (4 % 18446744073709551616))))).val, false) /\ ¬ rp ((p8 l).val, (-(lowP (rtP ((p8 l) * (p8 l) * (p8 l) + ofP (4 % 18446744073709551616))))).val, false)) : Gives prog 27 (sv l) Jj :=
 sq (Kl ++ [(92, wO 0), (112, wO 0), (116, wO 1)]) (ai (show sml1 ((p8 l).val, (-(lowP (rtP ((p8 l) * (p8 l) * (p8 l) + ofP (4 % 18446744073709551616))))).val, false) /\ may1 ((p8 l).val, (-(lowP (rtP ((p8 l) * (p8 l) * (p8 l) + ofP (4 % 18446744073709551616))))).val, false) /\ ¬ rp ((p8 l).val, (-(lowP (rtP ((p8 l) * (p8 l) * (p8 l) + ofP (4 % 18446744073709551616))))).val, false) from hg) (ai (show sml1 ((p8 l).val, (-(lowP (rtP ((p8 l) * (p8 l) * (p8 l) + ofP (4 % 18446744073709551616))))).val, false) /\ may1 ((p8 l).val, (-(lowP (rtP ((p8 l) * (p8 l) * (p8 l) + ofP (4 % 18446744073709551616))))).val, false) from ⟨hg.1, hg.2.1⟩) (ai (FB l hq)
   (J9 hL ht h).down)))
theorem NT (l : LU0) (hL : l.length = 48) (ht : p7 l = 5) (h : vB l) (hq : sqP ((p8 l) * (p8 l) * (p8 l) + ofP (4 % 18446744073709551616))) (hg : sml1 ((p8 l).val, (-(lowP (rtP ((p8 l) * (p8 l) * (p8 l) + ofP (4 % 18446744073709551616))))).val, false) /\ may1 ((p8 l).val, (-(lowP (rtP ((p8 l) * (p8 l) * (p8 l) + ofP (4 % 18446744073709551616))))).val, false) /\ rp ((p8 l).val, (-(lowP (rtP ((p8 l) * (p8 l) * (p8 l) + ofP (4 % 18446744073709551616))))).val, false)) : Gives prog 27 (sv l) (.tp [.ag [.q (ofP (deN 48 ((pY l).take 48))), .q (-(lowP (rtP ((ofP (deN 48 ((pY l).take 48))) * (ofP (deN 48 ((pY l).take 48))) * (ofP (deN 48 ((pY l).take 48))) + ofP (4 % 18446744073709551616))))), .c (.bool false)], vi0 0]) :=
 sq (Kl ++ [(92, wO 0), (112, wO 0), (116, wO 0)]) (ai (show sml1 ((p8 l).val, (-(lowP (rtP ((p8 l) * (p8 l) * (p8 l) + ofP (4 % 18446744073709551616))))).val, false) /\ may1 ((p8 l).val, (-(lowP (rtP ((p8 l) * (p8 l) * (p8 l) + ofP (4 % 18446744073709551616))))).val, false) /\ rp ((p8 l).val, (-(lowP (rtP ((p8 l) * (p8 l) * (p8 l) + ofP (4 % 18446744073709551616))))).val, false) from hg) (ai (show sml1 ((p8 l).val, (-(lowP (rtP ((p8 l) * (p8 l) * (p8 l) + ofP (4 % 18446744073709551616))))).val, false) /\ may1 ((p8 l).val, (-(lowP (rtP ((p8 l) * (p8 l) * (p8 l) + ofP (4 % 18446744073709551616))))).val, false) from ⟨hg.1, hg.2.1⟩) (ai (FB l hq)
   (J9 hL ht h).down)))
theorem FQ (l : LU0) (hL : l.length = 96) : (((ofL (((pY l).drop 48).drop 48)).size : Nat) : Int) = ((0 : Nat) : Int) := by rw [JD, hL]
theorem AT (l : LU0) (hL : l.length = 96) : (0 : Int) <= 48 /\ (48 : Int) <= (ofL ((pY l).drop 48)).size := ⟨by decide, by rw [Ay, hL]; decide⟩
theorem N5 (l : LU0) (hL : l.length = 96) (h2 : nY l < 4002409555221667393417789825735904156556882819939007885332058136124031650490837864442687629129015664037894272559787) : (((pY l).drop 48).take 48).length = 48 /\ deN 48 (((pY l).drop 48).take 48) < 4002409555221667393417789825735904156556882819939007885332058136124031650490837864442687629129015664037894272559787 := ⟨by simp only [List.length_take, List.length_drop, qd, hL]; rfl, h2⟩
theorem Pw (l : LU0) (hL : l.length = 96) : (((ofL ((pY l).drop 48)).size : Nat) : Int) = ((48 : Nat) : Int) := by rw [Ay, hL]
theorem Ff (l : LU0) (hL : l.length = 96) : (0 : Int) <= 48 /\ (48 : Int) <= (ofL (pY l)).size := ⟨by decide, by rw [yM, hL]; decide⟩
theorem XU (l : LU0) (hL : l.length = 96) (h1 : nX l < 4002409555221667393417789825735904156556882819939007885332058136124031650490837864442687629129015664037894272559787) : ((pY l).take 48).length = 48 /\ deN 48 ((pY l).take 48) < 4002409555221667393417789825735904156556882819939007885332058136124031650490837864442687629129015664037894272559787 := ⟨by simp only [List.length_take, List.length_drop, qd, hL]; rfl, h1⟩
theorem OJ (l : LU0) (hL : l.length = 96) : (((ofL (pY l)).size : Nat) : Int) = ((96 : Nat) : Int) := by rw [yM, hL]
theorem OA (l : LU0) (hL : l.length = 96) (ht : p7 l = 0) : l.length = 96 /\ p7 l = 0 := ⟨hL, ht⟩
abbrev tD (l : LU0) := ((p8 l).val, (ofP (deN 48 (((pY l).drop 48).take 48))).val, false)
def Vt {l : LU0} (hL : l.length = 96) (ht : p7 l = 0) (h1 : vB l) := PLift.up (ai (AT l hL) (ai (Pw l hL) (ai (Ff l hL) (ai (XU l hL h1) (ai (Ff l hL) (ai (OJ l hL) (ai (OA l hL ht) tt0)))))))
abbrev Dp (l : LU0) : Prop := nY l < 4002409555221667393417789825735904156556882819939007885332058136124031650490837864442687629129015664037894272559787
def IV {l : LU0} (hL : l.length = 96) (ht : p7 l = 0) (h1 : vB l) (h2 : Dp l) := PLift.up (ai (FQ l hL) (ai (AT l hL) (ai (N5 l hL h2)
   (Vt hL ht h1).down)))
def J4 : LO0 := [(3, wO 5), (29, zc), (36, rO 5 0), (37, wO 1), (45, rO 5 0), (57, zs), (64, rO 5 0), (65, wO 1), (73, rO 5 0), (85, vd)]
theorem TF (l : LU0) (hL : l.length = 96) (ht : p7 l = 0) (h1 : vB l) (h2 : Dp l) (hr : sml1 (tD l) /\ ¬ may1 (tD l)) : Gives prog 27 (sv l) J7 :=
 sq (J4 ++ [(114, wO 1)]) (ai (show sml1 (tD l) /\ ¬ may1 (tD l) from hr)
   (IV hL ht h1 h2).down)
theorem UZ (l : LU0) (hL : l.length = 96) (ht : p7 l = 0) (h1 : vB l) (h2 : Dp l) (hg : sml1 (tD l) /\ may1 (tD l) /\ ¬ rp (tD l)) : Gives prog 27 (sv l) Jj :=
 sq (J4 ++ [(114, wO 0), (118, wO 1)]) (ai (show sml1 (tD l) /\ may1 (tD l) /\ ¬ rp (tD l) from hg) (ai (show sml1 (tD l) /\ may1 (tD l) from ⟨hg.1, hg.2.1⟩)
   (IV hL ht h1 h2).down))
theorem Ph (l : LU0) (hL : l.length = 96) (ht : p7 l = 0) (h1 : vB l) (h2 : Dp l) (hg : sml1 (tD l) /\ may1 (tD l) /\ rp (tD l)) : Gives prog 27 (sv l) (.tp [.ag [.q (ofP (deN 48 ((pY l).take 48))), .q (ofP (deN 48 (((pY l).drop 48).take 48))), .c (.bool false)], vi0 0]) :=
 sq (J4 ++ [(114, wO 0), (118, wO 0)]) (ai (show sml1 (tD l) /\ may1 (tD l) /\ rp (tD l) from hg) (ai (show sml1 (tD l) /\ may1 (tD l) from ⟨hg.1, hg.2.1⟩)
   (IV hL ht h1 h2).down))
theorem QR (l : LU0) (hL : l.length = 96) (h2 : 4002409555221667393417789825735904156556882819939007885332058136124031650490837864442687629129015664037894272559787 <= nY l) : (((pY l).drop 48).take 48).length = 48 /\ 4002409555221667393417789825735904156556882819939007885332058136124031650490837864442687629129015664037894272559787 <= deN 48 (((pY l).drop 48).take 48) := ⟨by simp only [List.length_take, List.length_drop, qd, hL]; rfl, h2⟩
abbrev Oj (l : LU0) : Prop := 4002409555221667393417789825735904156556882819939007885332058136124031650490837864442687629129015664037894272559787 <= nY l
theorem Om (l : LU0) (hL : l.length = 96) (ht : p7 l = 0) (h1 : vB l) (h2 : Oj l) : Gives prog 27 (sv l) Dm :=
 sq [(3, wO 5), (29, zc), (36, rO 5 0), (37, wO 1), (45, rO 5 0), (57, zs), (64, rO 5 0), (65, wO 2), (73, rO 5 0), (85, vd)] (ai (FQ l hL) (ai (AT l hL) (ai (QR l hL h2)
   (Vt hL ht h1).down)))
theorem XG (l : LU0) (hL : l.length = 96) (h1 : 4002409555221667393417789825735904156556882819939007885332058136124031650490837864442687629129015664037894272559787 <= nX l) : ((pY l).take 48).length = 48 /\ 4002409555221667393417789825735904156556882819939007885332058136124031650490837864442687629129015664037894272559787 <= deN 48 ((pY l).take 48) := ⟨by simp only [List.length_take, List.length_drop, qd, hL]; rfl, h1⟩
def QA {l : LU0} (hL : l.length = 96) (ht : p7 l = 0) (h1 : C1 l) := PLift.up (ai (AT l hL) (ai (Pw l hL) (ai (Ff l hL) (ai (XG l hL h1) (ai (Ff l hL) (ai (OJ l hL) (ai (OA l hL ht) tt0)))))))
def Sk : LO0 := [(3, wO 5), (29, zc), (36, rO 5 0), (37, wO 2), (45, rO 5 0), (57, zs), (64, rO 5 0)]
theorem Sf (l : LU0) (hL : l.length = 96) (ht : p7 l = 0) (h1 : C1 l) (h2 : Dp l) : Gives prog 27 (sv l) Dm :=
 sq (Sk ++ [(65, wO 1), (73, rO 5 0), (83, vd)]) (ai (FQ l hL) (ai (AT l hL) (ai (N5 l hL h2)
   (QA hL ht h1).down)))
theorem Qv (l : LU0) (hL : l.length = 96) (ht : p7 l = 0) (h1 : C1 l) (h2 : Oj l) : Gives prog 27 (sv l) Dm :=
 sq (Sk ++ [(65, wO 2), (73, rO 5 0), (83, vd)]) (ai (FQ l hL) (ai (AT l hL) (ai (QR l hL h2)
   (QA hL ht h1).down)))
def sh1 (l : LU0) : Prop := l.length = 48 /\ (p7 l = 4 ∨ p7 l = 5)
def lo1 (l : LU0) : Prop := l.length = 96 /\ p7 l = 0
theorem K7 (a : Fin Pp) (hq : sqP a) : lowP (rtP a) * lowP (rtP a) = a := (Cl _).trans hq
theorem X7 (a : Fin Pp) : -a * -a = a * a := by grind
theorem vb (x y : Fin Pp) (b : Bool) : sml1 (x.val, y.val, b) := ⟨wQ x, wQ y⟩
theorem zY (x : Fin Pp) (h : Bool) (hq : sqP (sV x)) : may1 (x.val, (sy1 (sV x) h).val, false) := by
 show is1 x.val /\ is1 (sy1 (sV x) h).val /\ ofP (sy1 (sV x) h).val * ofP (sy1 (sV x) h).val = sV (ofP x.val)
 refine ⟨x.isLt, (sy1 (sV x) h).isLt, ?_⟩
 rw [r9, r9]
 cases h
 ·exact K7 _ hq
 ·show -(lowP (rtP (sV x))) * -(lowP (rtP (sV x))) = sV x
  rw [X7]; exact K7 _ hq
def altG1 (l : LU0) : uF := [(some (l.length ≠ 48 /\ l.length ≠ 96), .tp [.ag [.c (.int .u64 0), .c (.int .u64 0), .c (.int .u64 0), .c (.int .u64 0), .c (.int .u64 0), .c (.int .u64 0), .c (.int .u64 0), .c (.int .u64 0), .c (.int .u64 0), .c (.int .u64 0), .c (.int .u64 0), .c (.int .u64 0), .c (.bool false)], vi0 3]), (some ((l.length = 48 /\ p7 l ≠ 4 /\ p7 l ≠ 5 /\ p7 l ≠ 6) ∨ (l.length = 96 /\ p7 l ≠ 0 /\ p7 l ≠ 2)), .tp [.ag [.c (.int .u64 0), .c (.int .u64 0), .c (.int .u64 0), .c (.int .u64 0), .c (.int .u64 0), .c (.int .u64 0), .c (.int .u64 0), .c (.int .u64 0), .c (.int .u64 0), .c (.int .u64 0), .c (.int .u64 0), .c (.int .u64 0), .c (.bool false)], vi0 32]), (some (((l.length = 48 /\ p7 l = 6) ∨ (l.length = 96 /\ p7 l = 2)) /\ ¬ te (pY l)), .tp [.ag [.c (.int .u64 0), .c (.int .u64 0), .c (.int .u64 0), .c (.int .u64 0), .c (.int .u64 0), .c (.int .u64 0), .c (.int .u64 0), .c (.int .u64 0), .c (.int .u64 0), .c (.int .u64 0), .c (.int .u64 0), .c (.int .u64 0), .c (.bool false)], vi0 33]), (some (((l.length = 48 /\ p7 l = 6) ∨ (l.length = 96 /\ p7 l = 2)) /\ te (pY l)), .tp [.ag [.c (.int .u64 0), .c (.int .u64 0), .c (.int .u64 0), .c (.int .u64 0), .c (.int .u64 0), .c (.int .u64 0), .c (.int .u64 0), .c (.int .u64 0), .c (.int .u64 0), .c (.int .u64 0), .c (.int .u64 0), .c (.int .u64 0), .c (.bool true)], vi0 0]), (some (sh1 l /\ ¬ nX l < Pp), .tp [.ag [.c (.int .u64 0), .c (.int .u64 0), .c (.int .u64 0), .c (.int .u64 0), .c (.int .u64 0), .c (.int .u64 0), .c (.int .u64 0), .c (.int .u64 0), .c (.int .u64 0), .c (.int .u64 0), .c (.int .u64 0), .c (.int .u64 0), .c (.bool false)], vi0 20]), (some (sh1 l /\ nX l < Pp /\ ¬ sqP (sV (ofP (nX l)))), .tp [.ag [.c (.int .u64 0), .c (.int .u64 0), .c (.int .u64 0), .c (.int .u64 0), .c (.int .u64 0), .c (.int .u64 0), .c (.int .u64 0), .c (.int .u64 0), .c (.int .u64 0), .c (.int .u64 0), .c (.int .u64 0), .c (.int .u64 0), .c (.bool false)], vi0 30]), (some (sh1 l /\ nX l < Pp /\ sqP (sV (ofP (nX l))) /\ ¬ rp ((ofP (nX l)).val, (sy1 (sV (ofP (nX l))) (decide (p7 l = 5))).val, false)), .tp [.ag [.c (.int .u64 0), .c (.int .u64 0), .c (.int .u64 0), .c (.int .u64 0), .c (.int .u64 0), .c (.int .u64 0), .c (.int .u64 0), .c (.int .u64 0), .c (.int .u64 0), .c (.int .u64 0), .c (.int .u64 0), .c (.int .u64 0), .c (.bool false)], vi0 31]), (some (sh1 l /\ nX l < Pp /\ sqP (sV (ofP (nX l))) /\ rp ((ofP (nX l)).val, (sy1 (sV (ofP (nX l))) (decide (p7 l = 5))).val, false)), .tp [.ag [.q (ofP (nX l)), .q (sy1 (sV (ofP (nX l))) (decide (p7 l = 5))), .c (.bool false)], vi0 0]), (some (lo1 l /\ ¬ (nX l < Pp /\ nY l < Pp)), .tp [.ag [.c (.int .u64 0), .c (.int .u64 0), .c (.int .u64 0), .c (.int .u64 0), .c (.int .u64 0), .c (.int .u64 0), .c (.int .u64 0), .c (.int .u64 0), .c (.int .u64 0), .c (.int .u64 0), .c (.int .u64 0), .c (.int .u64 0), .c (.bool false)], vi0 20]), (some (lo1 l /\ (nX l < Pp /\ nY l < Pp) /\ ¬ may1 ((ofP (nX l)).val, (ofP (nY l)).val, false)), .tp [.ag [.c (.int .u64 0), .c (.int .u64 0), .c (.int .u64 0), .c (.int .u64 0), .c (.int .u64 0), .c (.int .u64 0), .c (.int .u64 0), .c (.int .u64 0), .c (.int .u64 0), .c (.int .u64 0), .c (.int .u64 0), .c (.int .u64 0), .c (.bool false)], vi0 30]), (some (lo1 l /\ (nX l < Pp /\ nY l < Pp) /\ may1 ((ofP (nX l)).val, (ofP (nY l)).val, false) /\ ¬ rp ((ofP (nX l)).val, (ofP (nY l)).val, false)), .tp [.ag [.c (.int .u64 0), .c (.int .u64 0), .c (.int .u64 0), .c (.int .u64 0), .c (.int .u64 0), .c (.int .u64 0), .c (.int .u64 0), .c (.int .u64 0), .c (.int .u64 0), .c (.int .u64 0), .c (.int .u64 0), .c (.int .u64 0), .c (.bool false)], vi0 31]), (some (lo1 l /\ (nX l < Pp /\ nY l < Pp) /\ may1 ((ofP (nX l)).val, (ofP (nY l)).val, false) /\ rp ((ofP (nX l)).val, (ofP (nY l)).val, false)), .tp [.ag [.q (ofP (nX l)), .q (ofP (nY l)), .c (.bool false)], vi0 0])]
theorem PS (l : LU0) : ∀ c r, (c, r) ∈ altG1 l -> c.getD True -> Gives prog 27 [.t (.v (.string (ofL l)))] r := by
 intro c x hm hc
 simp only [altG1, List.mem_cons, pi0, List.not_mem_nil, or_false] at hm
 rcases hm with ⟨rfl, rfl⟩ | ⟨rfl, rfl⟩ | ⟨rfl, rfl⟩ | ⟨rfl, rfl⟩ | ⟨rfl, rfl⟩ | ⟨rfl, rfl⟩ | ⟨rfl, rfl⟩ | ⟨rfl, rfl⟩ | ⟨rfl, rfl⟩ | ⟨rfl, rfl⟩ | ⟨rfl, rfl⟩ | ⟨rfl, rfl⟩
 ·exact UJ l hc
 ·exact Qq l hc
 ·exact Pm l hc
 ·obtain ⟨h | h, hz⟩ := hc
  ·exact S5 l ⟨h, hz⟩
  ·exact U9 l ⟨h, hz⟩
 ·obtain ⟨⟨hL, ht | ht⟩, h⟩ := hc
  ·exact RH l hL ht (Nat.le_of_not_lt h)
  ·exact Sw l hL ht (Nat.le_of_not_lt h)
 ·obtain ⟨⟨hL, ht | ht⟩, h, hq⟩ := hc
  ·exact Rh l hL ht h hq
  ·exact RS l hL ht h hq
 ·obtain ⟨⟨hL, ht | ht⟩, h, hq, hg⟩ := hc
  ·have e : decide (p7 l = 5) = false := by rw [ht]; rfl
   rw [e] at hg
   exact QX l hL ht h hq ⟨vb _ _ _, zY _ false hq, hg⟩
  ·have e : decide (p7 l = 5) = true := by rw [ht]; rfl
   rw [e] at hg
   exact Ro l hL ht h hq ⟨vb _ _ _, zY _ true hq, hg⟩
 ·obtain ⟨⟨hL, ht | ht⟩, h, hq, hg⟩ := hc
  ·have e : decide (p7 l = 5) = false := by rw [ht]; rfl
   rw [e] at hg ⊢
   exact Nr l hL ht h hq ⟨vb _ _ _, zY _ false hq, hg⟩
  ·have e : decide (p7 l = 5) = true := by rw [ht]; rfl
   rw [e] at hg ⊢
   exact NT l hL ht h hq ⟨vb _ _ _, zY _ true hq, hg⟩
 ·obtain ⟨⟨hL, ht⟩, h⟩ := hc
  by_cases h1 : nX l < Pp
  ·by_cases h2 : nY l < Pp
   ·exact absurd ⟨h1, h2⟩ h
   ·exact Om l hL ht h1 (Nat.le_of_not_lt h2)
  ·by_cases h2 : nY l < Pp
   ·exact Sf l hL ht (Nat.le_of_not_lt h1) h2
   ·exact Qv l hL ht (Nat.le_of_not_lt h1) (Nat.le_of_not_lt h2)
 ·obtain ⟨⟨hL, ht⟩, ⟨h1, h2⟩, hr⟩ := hc
  exact TF l hL ht h1 h2 ⟨vb _ _ _, hr⟩
 ·obtain ⟨⟨hL, ht⟩, ⟨h1, h2⟩, hr, hg⟩ := hc
  exact UZ l hL ht h1 h2 ⟨vb _ _ _, hr, hg⟩
 ·obtain ⟨⟨hL, ht⟩, ⟨h1, h2⟩, hr, hg⟩ := hc
  exact Ph l hL ht h1 h2 ⟨vb _ _ _, hr, hg⟩
end Go.Proofs.YtokjhbmmdmeafaaGreat
