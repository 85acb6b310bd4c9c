/- Pruned: Ge. -/
import Derived.Test.YtokjhbmmdmeafaaGreatQGc
set_option linter.unusedSimpArgs false
set_option linter.unusedVariables false
namespace Go.Proofs.YtokjhbmmdmeafaaGreat
open Go.Ev Go.RowKit
open Tryz
def hpC (c : Nat) (r : LU0) : List Ch := [.c (.int .u8 (c : Int)), .y r]
def hv (c : Nat) (r : LU0) (i : Nat) : Nat := ((c :: r.map UInt8.toNat)[i]?).getD 0
theorem SQ (c : Nat) (r : LU0) : flat (hpC c r) = (c :: r.map UInt8.toNat).map (fun v => Value.int .u8 ((v : Nat) : Int)) := by
 unfold hpC
 rw [De]
 simp only [List.map_cons, List.map_map]
 rfl
theorem Pb (c : Nat) (r : LU0) (i : Nat) (h : i < r.length + 1) : (flat (hpC c r))[i * 1]? = some (.int .u8 ((hv c r i : Nat) : Int)) := by
 rw [SQ, Nat.mul_one, List.getElem?_map]
 have hl : i < (c :: r.map UInt8.toNat).length := by simpa using h
 unfold hv
 rw [List.getElem?_eq_getElem hl]
 rfl
theorem RQ : ∀ b : Fin 256, bits BinOp.and IntKind.u8 ((b.val : Nat) : Int) 224 = ((b.val / 32 * 32 : Nat) : Int) := by decide +kernel
theorem Is : ∀ b : Fin 256, bits BinOp.andNot IntKind.u8 ((b.val : Nat) : Int) 224 = ((b.val % 32 : Nat) : Int) := by decide +kernel
theorem zE (b : UInt8) (f : Nat) (h : b.toNat / 32 * 32 = f) : bits BinOp.and IntKind.u8 ((b.toNat : Nat) : Int) 224 = ((f : Nat) : Int) := by
 rw [← h]; exact RQ ⟨b.toNat, UInt8.toNat_lt b⟩
theorem Qu (b : UInt8) : bits BinOp.andNot IntKind.u8 ((b.toNat : Nat) : Int) 224 = ((b.toNat % 32 : Nat) : Int) := Is ⟨b.toNat, UInt8.toNat_lt b⟩
theorem HE (b : UInt8) (r : LU0) : (flat [.c (.int .u8 ((b.toNat % 32 : Nat) : Int)), .y r]).take (ofL (b :: r)).size = (ofL (UInt8.ofNat (b.toNat % 32) :: r)).data.toList.map rI /\ (ofL (b :: r)).size = (ofL (UInt8.ofNat (b.toNat % 32) :: r)).size := by
 refine ⟨?_, rfl⟩
 rw [N0]
 show _ = rI (UInt8.ofNat (b.toNat % 32)) :: r.map rI
 congr 1
 unfold rI
 congr 1
 rw [UInt8.toNat_ofNat']
 omega
def hdI (f c : Nat) (r : LU0) (z : Int) : LState := { n := 70, sl := [(7, .v (.int .u8 (f : Int))), (8, .sx 42 (r.length + 1)), (58, .sx 42 (r.length + 1)), (59, vi0 ((r.length + 1 : Nat) : Int)), (60, vi0 z)], hp := [(42, .gr (hpC c r) 5 1)] }
def hdZ (f c : Nat) (r : LU0) : LState := { n := 70, sl := [(7, .v (.int .u8 (f : Int))), (8, .sx 42 (r.length + 1))], hp := [(42, .gr (hpC c r) 5 1)] }
def hdE : LState := { n := 70, sl := [(4, .v (.string (ofL []))), (5, .v (.int .u8 0)), (6, vi0 33)], hp := [] }
abbrev If (a : AA) (e : Ex) (b : AA) : Prop := Sound prog 0 false (pI f57 0) a e b
theorem EI (f c : Nat) (r : LU0) (i : Nat) (hi : i < r.length + 1) (hm : r.length + 1 <= 1000) (hz : hv c r i = 0) : If (hdI f c r (i : Int)).aa .normal (hdI f c r ((i + 1 : Nat) : Int)).aa := by
 have hs := pG (P := prog) (X := qz _) (env := []) trivial (n := 0) (os := oL [(56, wT), (57, rO 9 i), (58, { ch := 0, hi := fun _ => 0, ru := 8, av := fun _ => .v (.int .u8 0) })]) (fb := 0) (rd := false) (c := (pI f57 0)) (k := 56) (I := hdI f c r (i : Int)) (sk := [7, 8, 58, 59, 60]) (hk := [42]) (lk := []) (ex := .normal)
  (L := hdI f c r (IntKind.i64.wrap ((i : Int) + 1))) (by kernel_rfl) (ai (show (flat (hpC c r))[i * 1]? = some (.int .u8 0) from by rw [Pb c r i hi, hz]; rfl) (ai (show (i : Int) = ((i : Nat) : Int) /\ i < r.length + 1 from ⟨rfl, hi⟩) (ai (show decide ((i : Int) < ((r.length + 1 : Nat) : Int)) = true from decide_eq_true (by omega)) tt0)))
 rw [show IntKind.i64.wrap ((i : Int) + 1) = ((i + 1 : Nat) : Int) by rw [pN]; omega] at hs
 exact hs
theorem LN {c : Code} {I L : LState} {ex : Ex} {b : Prop} (o : LO0) (k : Nat) (sk hk : List Nat) (hb : b) (h : vj prog (qz _) [] 0 (oL o) 0 false c k I sk hk [] = some (ex, L, b) := by kernel_rfl) : Sound prog 0 false c I.aa ex L.aa := pG (P := prog) (X := qz _) (env := []) trivial h hb
theorem V3 (f c : Nat) (r : LU0) : If (hdI f c r ((r.length + 1 : Nat) : Int)).aa (.exit 0) (hdZ f c r).aa :=
 LN [(56, wF)] 56 [7, 8] [42] (ai (show decide (((r.length + 1 : Nat) : Int) < ((r.length + 1 : Nat) : Int)) = false from decide_eq_false (by omega)) tt0)
theorem Vf (f c : Nat) (r : LU0) (i v : Nat) (hi : i < r.length + 1) (hw : hv c r i = v) (hz : v ≠ 0) : If (hdI f c r (i : Int)).aa .ret hdE.aa :=
 LN [(56, wT), (57, rO 9 i), (58, { ch := 0, hi := fun _ => 0, ru := 8, av := fun _ => .v (.int .u8 ((v : Nat) : Int)) }), (61, wT)] 56 [4, 5, 6] [] (ai (show (((v : Nat) : Int) != 0) = true from by simp; omega) (ai (show (flat (hpC c r))[i * 1]? = some (.int .u8 ((v : Nat) : Int)) from by rw [Pb c r i hi, hw]) (ai (show (i : Int) = ((i : Nat) : Int) /\ i < r.length + 1 from ⟨rfl, hi⟩) (ai (show decide ((i : Int) < ((r.length + 1 : Nat) : Int)) = true from decide_eq_true (by omega)) tt0))))
theorem Af (f c : Nat) (r : LU0) (hm : r.length + 1 <= 1000) (hz : ∀ i, i < r.length + 1 -> hv c r i = 0) : Sound prog 0 false (.loop (pI f57 0)) (hdI f c r 0).aa (.exit 0) (hdZ f c r).aa := by
 refine qr (m := fun y : { i : Nat // i <= r.length + 1 } => r.length + 1 - y.val) (fun y => hdI f c r (y.val : Int)) (by simp) (fun y => ?_) ⟨0, by omega⟩
 obtain ⟨i, hi⟩ := y
 by_cases h : i < r.length + 1
 ·exact .inl ⟨⟨i + 1, h⟩, by show r.length + 1 - (i + 1) < r.length + 1 - i; omega, EI f c r i h hm (hz i h)⟩
 ·have e : i = r.length + 1 := by omega
  subst e
  exact .inr (V3 f c r)
theorem Jr (f c : Nat) (r : LU0) (hm : r.length + 1 <= 1000) (j : Nat) (hj : j < r.length + 1) (hz : hv c r j ≠ 0) : Sound prog 0 false (.loop (pI f57 0)) (hdI f c r 0).aa .ret hdE.aa := by
 refine qr (m := fun y : { i : Nat // i <= j } => j - y.val) (fun y => hdI f c r (y.val : Int)) (by simp) (fun y => ?_) ⟨0, by omega⟩
 obtain ⟨i, hi⟩ := y
 by_cases h : hv c r i = 0
 ·have e : i ≠ j := fun e => hz (e ▸ h)
  exact .inl ⟨⟨i + 1, by omega⟩, by show j - (i + 1) < j - i; omega, EI f c r i (by omega) hm h⟩
 ·exact .inr (Vf f c r i _ (by omega) rfl h)
abbrev Ni : AV := .tp [.v (.string (ofL [])), .v (.int .u8 0), vi0 3]
theorem pY {a : List XV} {r : AV} {b : Prop} (o : Nat -> Ora) (h : fnA prog (qz _) [] 0 o f57 a = some (r, b)) (hv : ∃ v, r.val? = some v) (hb : b) : Gives prog 57 a r := pz (P := prog) (X := qz _) (env := []) trivial func57 0 o h hv hb
theorem HC (l : LU0) (h1 : l.length ≠ 48) (h2 : l.length ≠ 96) : Gives prog 57 [.t (.v (.string (ofL l))), .t (vi0 48)] Ni :=
 pY (oL [(6, wT), (12, wT)]) (by kernel_rfl) ⟨_, rfl⟩ (ai (show (((l.length : Nat) : Int) != 96) = true from by simp; omega) (ai (show (((l.length : Nat) : Int) != 48) = true from by simp; omega) tt0))
theorem zX (b : UInt8) (r : LU0) (hL : (ofL (b :: r)).size = 48) : ((((ofL (b :: r)).size : Nat) : Int) == 48) = true := by rw [hL]; decide
theorem Jm (b : UInt8) (hf : b.toNat / 32 * 32 = 0) : bits BinOp.and IntKind.u8 ((b.toNat : Nat) : Int) 224 = ((0 : Nat) : Int) := zE b 0 hf
theorem YT (b : UInt8) (r : LU0) (hL : (ofL (b :: r)).size = 48) : (0 : Int) <= 0 /\ (0 : Int) < (ofL (b :: r)).size /\ ((ofL (b :: r))[(0 : Int).toNat]?.getD 0).toNat = b.toNat := ⟨by decide, by rw [hL]; decide, by rw [DE]; rfl⟩
theorem XH (b : UInt8) (r : LU0) (hL : (ofL (b :: r)).size = 48) : ((((ofL (b :: r)).size : Nat) : Int) != 48) = false := by rw [hL]; decide
abbrev rY : AV := .tp [.v (.string (ofL [])), .v (.int .u8 0), vi0 32]
def wN {b : UInt8} {r : LU0} (hL : (ofL (b :: r)).size = 48) := PLift.up (ai (YT b r hL) (ai (XH b r hL) tt0))
def tW : Ora := { ch := 1, hi := fun _ => 0 }
theorem Kp (b : UInt8) (r : LU0) (hL : (ofL (b :: r)).size = 48) (hf : b.toNat / 32 * 32 = 0) : Gives prog 57 [.t (.v (.string (ofL (b :: r)))), .t (vi0 48)] rY :=
 pY (oL [(6, wF), (15, rO 1 b.toNat), (16, tW), (24, wT)]) (by kernel_rfl) ⟨_, rfl⟩ (ai (zX b r hL) (ai (Jm b hf)
   (wN hL).down))
theorem JA (b : UInt8) (hf : b.toNat / 32 * 32 = 32) : bits BinOp.and IntKind.u8 ((b.toNat : Nat) : Int) 224 = ((32 : Nat) : Int) := zE b 32 hf
def Dz : Nat × Ora := (16, { ch := 1, hi := fun _ => 32 })
theorem JR (b : UInt8) (r : LU0) (hL : (ofL (b :: r)).size = 48) (hf : b.toNat / 32 * 32 = 32) : Gives prog 57 [.t (.v (.string (ofL (b :: r)))), .t (vi0 48)] rY :=
 pY (oL [(6, wF), (15, rO 1 b.toNat), Dz, (24, wT)]) (by kernel_rfl) ⟨_, rfl⟩ (ai (zX b r hL) (ai (JA b hf)
   (wN hL).down))
theorem IY (b : UInt8) (hf : b.toNat / 32 * 32 = 64) : bits BinOp.and IntKind.u8 ((b.toNat : Nat) : Int) 224 = ((64 : Nat) : Int) := zE b 64 hf
def D5 : Nat × Ora := (16, { ch := 1, hi := fun _ => 64 })
theorem Lq (b : UInt8) (r : LU0) (hL : (ofL (b :: r)).size = 48) (hf : b.toNat / 32 * 32 = 64) : Gives prog 57 [.t (.v (.string (ofL (b :: r)))), .t (vi0 48)] rY :=
 pY (oL [(6, wF), (15, rO 1 b.toNat), D5, (24, wT)]) (by kernel_rfl) ⟨_, rfl⟩ (ai (zX b r hL) (ai (IY b hf)
   (wN hL).down))
theorem IM (b : UInt8) (hf : b.toNat / 32 * 32 = 96) : bits BinOp.and IntKind.u8 ((b.toNat : Nat) : Int) 224 = ((96 : Nat) : Int) := zE b 96 hf
def xR : Ora := { ch := 1, hi := fun _ => 96 }
theorem Li (b : UInt8) (r : LU0) (hL : (ofL (b :: r)).size = 48) (hf : b.toNat / 32 * 32 = 96) : Gives prog 57 [.t (.v (.string (ofL (b :: r)))), .t (vi0 48)] rY :=
 pY (oL [(6, wF), (15, rO 1 b.toNat), (16, xR), (24, wT)]) (by kernel_rfl) ⟨_, rfl⟩ (ai (zX b r hL) (ai (IM b hf)
   (wN hL).down))
theorem xt (b : UInt8) (r : LU0) : (flat [.c (.int .u8 ((b.toNat % 32 : Nat) : Int)), .y r]).take (ofL (b :: r)).size = (ofL (UInt8.ofNat (b.toNat % 32) :: r)).data.toList.map rI /\ (ofL (b :: r)).size = (ofL (UInt8.ofNat (b.toNat % 32) :: r)).size := HE b r
theorem sw (b : UInt8) (r : LU0) : (0 : Int) = ((0 : Nat) : Int) /\ 0 < (ofL (b :: r)).size := ⟨rfl, Nat.succ_pos _⟩
theorem xB (b : UInt8) : bits BinOp.andNot IntKind.u8 ((b.toNat : Nat) : Int) 224 = ((b.toNat % 32 : Nat) : Int) := Qu b
theorem uQ (b : UInt8) (r : LU0) : flat [.c (rI b), .y r] = (ofL (b :: r)).data.toList.map rI := De _ _
theorem C7 (b : UInt8) (hf : b.toNat / 32 * 32 = 128) : bits BinOp.and IntKind.u8 ((b.toNat : Nat) : Int) 224 = ((128 : Nat) : Int) := zE b 128 hf
def AN (b : UInt8) (r : LU0) : Nat × Ora := (42, { ch := 0, hi := fun _ => 0, ex := 2, cs := fun _ => [.c (rI b), .y r] })
def EZ (b : UInt8) (r : LU0) : Ora := { ch := 0, hi := fun _ => 0, ru := 10, av := fun _ => .v (.string (ofL (UInt8.ofNat (b.toNat % 32) :: r))) }
def xW (b : UInt8) : Nat × Ora := (47, { ch := 1, hi := fun _ => b.toNat % 32 })
def xM : Nat × Ora := (49, { ch := 0, hi := fun _ => 0, ex := 3 })
def Hu : Nat × Ora := (16, { ch := 1, hi := fun _ => 128 })
def N6 (b : UInt8) (r : LU0) : LO0 := [(6, wF), (15, rO 1 b.toNat), Hu, (24, wT), (AN b r), (45, rO 9 0), (xW b), (48, rO 9 0), xM, (54, (EZ b r))]
theorem KY (b : UInt8) (r : LU0) (hL : (ofL (b :: r)).size = 48) (hf : b.toNat / 32 * 32 = 128) : Gives prog 57 [.t (.v (.string (ofL (b :: r)))), .t (vi0 48)] (.tp [.v (.string (ofL (UInt8.ofNat (b.toNat % 32) :: r))), .v (.int .u8 128), vi0 0]) :=
 pY (oL (N6 b r)) (by kernel_rfl) ⟨_, rfl⟩ (ai (xt b r) (ai (sw b r) (ai (xB b) (ai (sw b r) (ai (uQ b r) (ai (zX b r hL) (ai (C7 b hf)
   (wN hL).down)))))))
theorem C6 (b : UInt8) (hf : b.toNat / 32 * 32 = 160) : bits BinOp.and IntKind.u8 ((b.toNat : Nat) : Int) 224 = ((160 : Nat) : Int) := zE b 160 hf
def GK : Nat × Ora := (16, { ch := 1, hi := fun _ => 160 })
def NE (b : UInt8) (r : LU0) : LO0 := [(6, wF), (15, rO 1 b.toNat), GK, (24, wT), (AN b r), (45, rO 9 0), (xW b), (48, rO 9 0), xM, (54, (EZ b r))]
theorem Lo (b : UInt8) (r : LU0) (hL : (ofL (b :: r)).size = 48) (hf : b.toNat / 32 * 32 = 160) : Gives prog 57 [.t (.v (.string (ofL (b :: r)))), .t (vi0 48)] (.tp [.v (.string (ofL (UInt8.ofNat (b.toNat % 32) :: r))), .v (.int .u8 160), vi0 0]) :=
 pY (oL (NE b r)) (by kernel_rfl) ⟨_, rfl⟩ (ai (xt b r) (ai (sw b r) (ai (xB b) (ai (sw b r) (ai (uQ b r) (ai (zX b r hL) (ai (C6 b hf)
   (wN hL).down)))))))
theorem DL (b : UInt8) (r : LU0) : some (hdI 192 (b.toNat % 32) r 0) = some (hdI 192 (b.toNat % 32) r 0) := rfl
theorem Dd (b : UInt8) (hf : b.toNat / 32 * 32 = 192) : bits BinOp.and IntKind.u8 ((b.toNat : Nat) : Int) 224 = ((192 : Nat) : Int) := zE b 192 hf
def DZ : Nat × Ora := (16, { ch := 1, hi := fun _ => 192 })
def QP (b : UInt8) (r : LU0) : LO0 := [(6, wF), (15, rO 1 b.toNat), DZ, (24, wT), (AN b r), (45, rO 9 0), (xW b), (48, rO 9 0), xM, (56, lpO { I := hdI 192 (b.toNat % 32) r 0, ex := .exit 0, E := hdZ 192 (b.toNat % 32) r, fr := 57 }), (58, (EZ b r))]
def Nw {b : UInt8} {r : LU0} (hL : (ofL (b :: r)).size = 48) (hf : b.toNat / 32 * 32 = 192) := PLift.up (ai (sw b r) (ai (xB b) (ai (sw b r) (ai (uQ b r) (ai (zX b r hL) (ai (Dd b hf)
   (wN hL).down))))))
theorem H5 (b : UInt8) (r : LU0) (hL : (ofL (b :: r)).size = 48) (hf : b.toNat / 32 * 32 = 192) (hz : ∀ i, i < r.length + 1 -> hv (b.toNat % 32) r i = 0) : Gives prog 57 [.t (.v (.string (ofL (b :: r)))), .t (vi0 48)] (.tp [.v (.string (ofL (UInt8.ofNat (b.toNat % 32) :: r))), .v (.int .u8 192), vi0 0]) :=
 pY (oL (QP b r)) (by kernel_rfl) ⟨_, rfl⟩ (ai (xt b r) (ai (DL b r) (ai (Af 192 (b.toNat % 32) r (show r.length + 1 <= 1000 from by have h : r.length + 1 = 48 := hL; omega) hz)
   (Nw hL hf).down)))
def Pl (b : UInt8) (r : LU0) : LO0 := [(6, wF), (15, rO 1 b.toNat), DZ, (24, wT), (AN b r), (45, rO 9 0), (xW b), (48, rO 9 0), xM, (56, lpO { I := hdI 192 (b.toNat % 32) r 0, ex := .ret, E := hdE, fr := 57 })]
abbrev CT : AV := .tp [.v (.string (ofL [])), .v (.int .u8 0), vi0 33]
theorem HK (b : UInt8) (r : LU0) (hL : (ofL (b :: r)).size = 48) (hf : b.toNat / 32 * 32 = 192) (j : Nat) (hj : j < r.length + 1) (hz : hv (b.toNat % 32) r j ≠ 0) : Gives prog 57 [.t (.v (.string (ofL (b :: r)))), .t (vi0 48)] CT :=
 pY (oL (Pl b r)) (by kernel_rfl) ⟨_, rfl⟩ (ai (DL b r) (ai (Jr 192 (b.toNat % 32) r (show r.length + 1 <= 1000 from by have h : r.length + 1 = 48 := hL; omega) j hj hz)
   (Nw hL hf).down))
theorem DW (b : UInt8) (hf : b.toNat / 32 * 32 = 224) : bits BinOp.and IntKind.u8 ((b.toNat : Nat) : Int) 224 = ((224 : Nat) : Int) := zE b 224 hf
def Dq : Nat × Ora := (16, { ch := 1, hi := fun _ => 224 })
theorem Ka (b : UInt8) (r : LU0) (hL : (ofL (b :: r)).size = 48) (hf : b.toNat / 32 * 32 = 224) : Gives prog 57 [.t (.v (.string (ofL (b :: r)))), .t (vi0 48)] rY :=
 pY (oL [(6, wF), (15, rO 1 b.toNat), Dq, (24, wT)]) (by kernel_rfl) ⟨_, rfl⟩ (ai (zX b r hL) (ai (DW b hf)
   (wN hL).down))
theorem wo (b : UInt8) (r : LU0) (hL : (ofL (b :: r)).size = 96) : ((((ofL (b :: r)).size : Nat) : Int) == 48) = false := by rw [hL]; decide
theorem Nz (b : UInt8) (r : LU0) (hL : (ofL (b :: r)).size = 96) : (0 : Int) <= 0 /\ (0 : Int) < (ofL (b :: r)).size /\ ((ofL (b :: r))[(0 : Int).toNat]?.getD 0).toNat = b.toNat := ⟨by decide, by rw [hL]; decide, by rw [DE]; rfl⟩
theorem MN (b : UInt8) (r : LU0) (hL : (ofL (b :: r)).size = 96) : ((((ofL (b :: r)).size : Nat) : Int) != 96) = false := by rw [hL]; decide
theorem WU (b : UInt8) (r : LU0) (hL : (ofL (b :: r)).size = 96) : ((((ofL (b :: r)).size : Nat) : Int) != 48) = true := by rw [hL]; decide
def zH {b : UInt8} {r : LU0} (hL : (ofL (b :: r)).size = 96) := PLift.up (ai (Nz b r hL) (ai (MN b r hL) (ai (WU b r hL) tt0)))
abbrev LY (b : UInt8) (r : LU0) := oL [(6, wT), (12, wF), (15, rO 1 b.toNat), (16, tW), (24, wF), (AN b r), (45, rO 9 0), (xW b), (48, rO 9 0), xM, (54, (EZ b r))]
theorem Ko (b : UInt8) (r : LU0) (hL : (ofL (b :: r)).size = 96) (hf : b.toNat / 32 * 32 = 0) : Gives prog 57 [.t (.v (.string (ofL (b :: r)))), .t (vi0 48)] (.tp [.v (.string (ofL (UInt8.ofNat (b.toNat % 32) :: r))), .v (.int .u8 0), vi0 0]) :=
 pY (LY b r) (by kernel_rfl) ⟨_, rfl⟩ (ai (xt b r) (ai (sw b r) (ai (xB b) (ai (sw b r) (ai (uQ b r) (ai (wo b r hL) (ai (Jm b hf)
   (zH hL).down)))))))
def th (b : UInt8) : LO0 := [(6, wT), (12, wF), (15, rO 1 b.toNat)]
theorem Lh (b : UInt8) (r : LU0) (hL : (ofL (b :: r)).size = 96) (hf : b.toNat / 32 * 32 = 32) : Gives prog 57 [.t (.v (.string (ofL (b :: r)))), .t (vi0 48)] rY :=
 pY (oL ((th b) ++ [Dz, (24, wF)])) (by kernel_rfl) ⟨_, rfl⟩ (ai (wo b r hL) (ai (JA b hf)
   (zH hL).down))
theorem CV (b : UInt8) (r : LU0) : some (hdI 64 (b.toNat % 32) r 0) = some (hdI 64 (b.toNat % 32) r 0) := rfl
def LX (b : UInt8) (r : LU0) : LO0 := [(6, wT), (12, wF), (15, rO 1 b.toNat), D5, (24, wF), (AN b r), (45, rO 9 0), (xW b), (48, rO 9 0), xM, (56, lpO { I := hdI 64 (b.toNat % 32) r 0, ex := .exit 0, E := hdZ 64 (b.toNat % 32) r, fr := 57 }), (58, (EZ b r))]
def Oe {b : UInt8} {r : LU0} (hL : (ofL (b :: r)).size = 96) (hf : b.toNat / 32 * 32 = 64) := PLift.up (ai (sw b r) (ai (xB b) (ai (sw b r) (ai (uQ b r) (ai (wo b r hL) (ai (IY b hf)
   (zH hL).down))))))
theorem GO (b : UInt8) (r : LU0) (hL : (ofL (b :: r)).size = 96) (hf : b.toNat / 32 * 32 = 64) (hz : ∀ i, i < r.length + 1 -> hv (b.toNat % 32) r i = 0) : Gives prog 57 [.t (.v (.string (ofL (b :: r)))), .t (vi0 48)] (.tp [.v (.string (ofL (UInt8.ofNat (b.toNat % 32) :: r))), .v (.int .u8 64), vi0 0]) :=
 pY (oL (LX b r)) (by kernel_rfl) ⟨_, rfl⟩ (ai (xt b r) (ai (CV b r) (ai (Af 64 (b.toNat % 32) r (show r.length + 1 <= 1000 from by have h : r.length + 1 = 96 := hL; omega) hz)
   (Oe hL hf).down)))
def MC (b : UInt8) (r : LU0) : LO0 := [(6, wT), (12, wF), (15, rO 1 b.toNat), D5, (24, wF), (AN b r), (45, rO 9 0), (xW b), (48, rO 9 0), xM, (56, lpO { I := hdI 64 (b.toNat % 32) r 0, ex := .ret, E := hdE, fr := 57 })]
theorem Ih (b : UInt8) (r : LU0) (hL : (ofL (b :: r)).size = 96) (hf : b.toNat / 32 * 32 = 64) (j : Nat) (hj : j < r.length + 1) (hz : hv (b.toNat % 32) r j ≠ 0) : Gives prog 57 [.t (.v (.string (ofL (b :: r)))), .t (vi0 48)] CT :=
 pY (oL (MC b r)) (by kernel_rfl) ⟨_, rfl⟩ (ai (CV b r) (ai (Jr 64 (b.toNat % 32) r (show r.length + 1 <= 1000 from by have h : r.length + 1 = 96 := hL; omega) j hj hz)
   (Oe hL hf).down))
theorem KO (b : UInt8) (r : LU0) (hL : (ofL (b :: r)).size = 96) (hf : b.toNat / 32 * 32 = 96) : Gives prog 57 [.t (.v (.string (ofL (b :: r)))), .t (vi0 48)] rY :=
 pY (oL ((th b) ++ [(16, xR), (24, wF)])) (by kernel_rfl) ⟨_, rfl⟩ (ai (wo b r hL) (ai (IM b hf)
   (zH hL).down))
theorem Lf (b : UInt8) (r : LU0) (hL : (ofL (b :: r)).size = 96) (hf : b.toNat / 32 * 32 = 128) : Gives prog 57 [.t (.v (.string (ofL (b :: r)))), .t (vi0 48)] rY :=
 pY (oL ((th b) ++ [Hu, (24, wF)])) (by kernel_rfl) ⟨_, rfl⟩ (ai (wo b r hL) (ai (C7 b hf)
   (zH hL).down))
theorem KW (b : UInt8) (r : LU0) (hL : (ofL (b :: r)).size = 96) (hf : b.toNat / 32 * 32 = 160) : Gives prog 57 [.t (.v (.string (ofL (b :: r)))), .t (vi0 48)] rY :=
 pY (oL ((th b) ++ [GK, (24, wF)])) (by kernel_rfl) ⟨_, rfl⟩ (ai (wo b r hL) (ai (C6 b hf)
   (zH hL).down))
theorem La (b : UInt8) (r : LU0) (hL : (ofL (b :: r)).size = 96) (hf : b.toNat / 32 * 32 = 192) : Gives prog 57 [.t (.v (.string (ofL (b :: r)))), .t (vi0 48)] rY :=
 pY (oL ((th b) ++ [DZ, (24, wF)])) (by kernel_rfl) ⟨_, rfl⟩ (ai (wo b r hL) (ai (Dd b hf)
   (zH hL).down))
theorem J8 (b : UInt8) (r : LU0) (hL : (ofL (b :: r)).size = 96) (hf : b.toNat / 32 * 32 = 224) : Gives prog 57 [.t (.v (.string (ofL (b :: r)))), .t (vi0 48)] rY :=
 pY (oL ((th b) ++ [Dq, (24, wF)])) (by kernel_rfl) ⟨_, rfl⟩ (ai (wo b r hL) (ai (DW b hf)
   (zH hL).down))
theorem G0 (l : LU0) (h1 : l.length ≠ 96) (h2 : l.length ≠ 192) : Gives prog 57 [.t (.v (.string (ofL l))), .t (vi0 96)] Ni :=
 pY (oL [(6, wT), (12, wT)]) (by kernel_rfl) ⟨_, rfl⟩ (ai (show (((l.length : Nat) : Int) != 192) = true from by simp; omega) (ai (show (((l.length : Nat) : Int) != 96) = true from by simp; omega) tt0))
theorem vZ (b : UInt8) (r : LU0) (hL : (ofL (b :: r)).size = 96) : ((((ofL (b :: r)).size : Nat) : Int) == 96) = true := by rw [hL]; decide
def wt {b : UInt8} {r : LU0} (hL : (ofL (b :: r)).size = 96) := PLift.up (ai (Nz b r hL) (ai (MN b r hL) tt0))
theorem JN (b : UInt8) (r : LU0) (hL : (ofL (b :: r)).size = 96) (hf : b.toNat / 32 * 32 = 0) : Gives prog 57 [.t (.v (.string (ofL (b :: r)))), .t (vi0 96)] rY :=
 pY (oL [(6, wF), (15, rO 1 b.toNat), (16, tW), (24, wT)]) (by kernel_rfl) ⟨_, rfl⟩ (ai (vZ b r hL) (ai (Jm b hf)
   (wt hL).down))
theorem KQ (b : UInt8) (r : LU0) (hL : (ofL (b :: r)).size = 96) (hf : b.toNat / 32 * 32 = 32) : Gives prog 57 [.t (.v (.string (ofL (b :: r)))), .t (vi0 96)] rY :=
 pY (oL [(6, wF), (15, rO 1 b.toNat), Dz, (24, wT)]) (by kernel_rfl) ⟨_, rfl⟩ (ai (vZ b r hL) (ai (JA b hf)
   (wt hL).down))
theorem Kv (b : UInt8) (r : LU0) (hL : (ofL (b :: r)).size = 96) (hf : b.toNat / 32 * 32 = 64) : Gives prog 57 [.t (.v (.string (ofL (b :: r)))), .t (vi0 96)] rY :=
 pY (oL [(6, wF), (15, rO 1 b.toNat), D5, (24, wT)]) (by kernel_rfl) ⟨_, rfl⟩ (ai (vZ b r hL) (ai (IY b hf)
   (wt hL).down))
theorem Km (b : UInt8) (r : LU0) (hL : (ofL (b :: r)).size = 96) (hf : b.toNat / 32 * 32 = 96) : Gives prog 57 [.t (.v (.string (ofL (b :: r)))), .t (vi0 96)] rY :=
 pY (oL [(6, wF), (15, rO 1 b.toNat), (16, xR), (24, wT)]) (by kernel_rfl) ⟨_, rfl⟩ (ai (vZ b r hL) (ai (IM b hf)
   (wt hL).down))
theorem Kw (b : UInt8) (r : LU0) (hL : (ofL (b :: r)).size = 96) (hf : b.toNat / 32 * 32 = 128) : Gives prog 57 [.t (.v (.string (ofL (b :: r)))), .t (vi0 96)] (.tp [.v (.string (ofL (UInt8.ofNat (b.toNat % 32) :: r))), .v (.int .u8 128), vi0 0]) :=
 pY (oL (N6 b r)) (by kernel_rfl) ⟨_, rfl⟩ (ai (xt b r) (ai (sw b r) (ai (xB b) (ai (sw b r) (ai (uQ b r) (ai (vZ b r hL) (ai (C7 b hf)
   (wt hL).down)))))))
theorem KX (b : UInt8) (r : LU0) (hL : (ofL (b :: r)).size = 96) (hf : b.toNat / 32 * 32 = 160) : Gives prog 57 [.t (.v (.string (ofL (b :: r)))), .t (vi0 96)] (.tp [.v (.string (ofL (UInt8.ofNat (b.toNat % 32) :: r))), .v (.int .u8 160), vi0 0]) :=
 pY (oL (NE b r)) (by kernel_rfl) ⟨_, rfl⟩ (ai (xt b r) (ai (sw b r) (ai (xB b) (ai (sw b r) (ai (uQ b r) (ai (vZ b r hL) (ai (C6 b hf)
   (wt hL).down)))))))
def Nc {b : UInt8} {r : LU0} (hL : (ofL (b :: r)).size = 96) (hf : b.toNat / 32 * 32 = 192) := PLift.up (ai (sw b r) (ai (xB b) (ai (sw b r) (ai (uQ b r) (ai (vZ b r hL) (ai (Dd b hf)
   (wt hL).down))))))
theorem GV (b : UInt8) (r : LU0) (hL : (ofL (b :: r)).size = 96) (hf : b.toNat / 32 * 32 = 192) (hz : ∀ i, i < r.length + 1 -> hv (b.toNat % 32) r i = 0) : Gives prog 57 [.t (.v (.string (ofL (b :: r)))), .t (vi0 96)] (.tp [.v (.string (ofL (UInt8.ofNat (b.toNat % 32) :: r))), .v (.int .u8 192), vi0 0]) :=
 pY (oL (QP b r)) (by kernel_rfl) ⟨_, rfl⟩ (ai (xt b r) (ai (DL b r) (ai (Af 192 (b.toNat % 32) r (show r.length + 1 <= 1000 from by have h : r.length + 1 = 96 := hL; omega) hz)
   (Nc hL hf).down)))
theorem F7 (b : UInt8) (r : LU0) (hL : (ofL (b :: r)).size = 96) (hf : b.toNat / 32 * 32 = 192) (j : Nat) (hj : j < r.length + 1) (hz : hv (b.toNat % 32) r j ≠ 0) : Gives prog 57 [.t (.v (.string (ofL (b :: r)))), .t (vi0 96)] CT :=
 pY (oL (Pl b r)) (by kernel_rfl) ⟨_, rfl⟩ (ai (DL b r) (ai (Jr 192 (b.toNat % 32) r (show r.length + 1 <= 1000 from by have h : r.length + 1 = 96 := hL; omega) j hj hz)
   (Nc hL hf).down))
theorem Kl (b : UInt8) (r : LU0) (hL : (ofL (b :: r)).size = 96) (hf : b.toNat / 32 * 32 = 224) : Gives prog 57 [.t (.v (.string (ofL (b :: r)))), .t (vi0 96)] rY :=
 pY (oL [(6, wF), (15, rO 1 b.toNat), Dq, (24, wT)]) (by kernel_rfl) ⟨_, rfl⟩ (ai (vZ b r hL) (ai (DW b hf)
   (wt hL).down))
theorem vS (b : UInt8) (r : LU0) (hL : (ofL (b :: r)).size = 192) : ((((ofL (b :: r)).size : Nat) : Int) == 96) = false := by rw [hL]; decide
theorem UX (b : UInt8) (r : LU0) (hL : (ofL (b :: r)).size = 192) : (0 : Int) <= 0 /\ (0 : Int) < (ofL (b :: r)).size /\ ((ofL (b :: r))[(0 : Int).toNat]?.getD 0).toNat = b.toNat := ⟨by decide, by rw [hL]; decide, by rw [DE]; rfl⟩
theorem Vd (b : UInt8) (r : LU0) (hL : (ofL (b :: r)).size = 192) : ((((ofL (b :: r)).size : Nat) : Int) != 192) = false := by rw [hL]; decide
theorem Wx (b : UInt8) (r : LU0) (hL : (ofL (b :: r)).size = 192) : ((((ofL (b :: r)).size : Nat) : Int) != 96) = true := by rw [hL]; decide
def z5 {b : UInt8} {r : LU0} (hL : (ofL (b :: r)).size = 192) := PLift.up (ai (UX b r hL) (ai (Vd b r hL) (ai (Wx b r hL) tt0)))
theorem Lp (b : UInt8) (r : LU0) (hL : (ofL (b :: r)).size = 192) (hf : b.toNat / 32 * 32 = 0) : Gives prog 57 [.t (.v (.string (ofL (b :: r)))), .t (vi0 96)] (.tp [.v (.string (ofL (UInt8.ofNat (b.toNat % 32) :: r))), .v (.int .u8 0), vi0 0]) :=
 pY (LY b r) (by kernel_rfl) ⟨_, rfl⟩ (ai (xt b r) (ai (sw b r) (ai (xB b) (ai (sw b r) (ai (uQ b r) (ai (vS b r hL) (ai (Jm b hf)
   (z5 hL).down)))))))
theorem Kx (b : UInt8) (r : LU0) (hL : (ofL (b :: r)).size = 192) (hf : b.toNat / 32 * 32 = 32) : Gives prog 57 [.t (.v (.string (ofL (b :: r)))), .t (vi0 96)] rY :=
 pY (oL ((th b) ++ [Dz, (24, wF)])) (by kernel_rfl) ⟨_, rfl⟩ (ai (vS b r hL) (ai (JA b hf)
   (z5 hL).down))
def Pg {b : UInt8} {r : LU0} (hL : (ofL (b :: r)).size = 192) (hf : b.toNat / 32 * 32 = 64) := PLift.up (ai (sw b r) (ai (xB b) (ai (sw b r) (ai (uQ b r) (ai (vS b r hL) (ai (IY b hf)
   (z5 hL).down))))))
theorem G9 (b : UInt8) (r : LU0) (hL : (ofL (b :: r)).size = 192) (hf : b.toNat / 32 * 32 = 64) (hz : ∀ i, i < r.length + 1 -> hv (b.toNat % 32) r i = 0) : Gives prog 57 [.t (.v (.string (ofL (b :: r)))), .t (vi0 96)] (.tp [.v (.string (ofL (UInt8.ofNat (b.toNat % 32) :: r))), .v (.int .u8 64), vi0 0]) :=
 pY (oL (LX b r)) (by kernel_rfl) ⟨_, rfl⟩ (ai (xt b r) (ai (CV b r) (ai (Af 64 (b.toNat % 32) r (show r.length + 1 <= 1000 from by have h : r.length + 1 = 192 := hL; omega) hz)
   (Pg hL hf).down)))
theorem Hq (b : UInt8) (r : LU0) (hL : (ofL (b :: r)).size = 192) (hf : b.toNat / 32 * 32 = 64) (j : Nat) (hj : j < r.length + 1) (hz : hv (b.toNat % 32) r j ≠ 0) : Gives prog 57 [.t (.v (.string (ofL (b :: r)))), .t (vi0 96)] CT :=
 pY (oL (MC b r)) (by kernel_rfl) ⟨_, rfl⟩ (ai (CV b r) (ai (Jr 64 (b.toNat % 32) r (show r.length + 1 <= 1000 from by have h : r.length + 1 = 192 := hL; omega) j hj hz)
   (Pg hL hf).down))
theorem Lr (b : UInt8) (r : LU0) (hL : (ofL (b :: r)).size = 192) (hf : b.toNat / 32 * 32 = 96) : Gives prog 57 [.t (.v (.string (ofL (b :: r)))), .t (vi0 96)] rY :=
 pY (oL ((th b) ++ [(16, xR), (24, wF)])) (by kernel_rfl) ⟨_, rfl⟩ (ai (vS b r hL) (ai (IM b hf)
   (z5 hL).down))
theorem Lw (b : UInt8) (r : LU0) (hL : (ofL (b :: r)).size = 192) (hf : b.toNat / 32 * 32 = 128) : Gives prog 57 [.t (.v (.string (ofL (b :: r)))), .t (vi0 96)] rY :=
 pY (oL ((th b) ++ [Hu, (24, wF)])) (by kernel_rfl) ⟨_, rfl⟩ (ai (vS b r hL) (ai (C7 b hf)
   (z5 hL).down))
theorem Lz (b : UInt8) (r : LU0) (hL : (ofL (b :: r)).size = 192) (hf : b.toNat / 32 * 32 = 160) : Gives prog 57 [.t (.v (.string (ofL (b :: r)))), .t (vi0 96)] rY :=
 pY (oL ((th b) ++ [GK, (24, wF)])) (by kernel_rfl) ⟨_, rfl⟩ (ai (vS b r hL) (ai (C6 b hf)
   (z5 hL).down))
theorem K5 (b : UInt8) (r : LU0) (hL : (ofL (b :: r)).size = 192) (hf : b.toNat / 32 * 32 = 192) : Gives prog 57 [.t (.v (.string (ofL (b :: r)))), .t (vi0 96)] rY :=
 pY (oL ((th b) ++ [DZ, (24, wF)])) (by kernel_rfl) ⟨_, rfl⟩ (ai (vS b r hL) (ai (Dd b hf)
   (z5 hL).down))
theorem KU (b : UInt8) (r : LU0) (hL : (ofL (b :: r)).size = 192) (hf : b.toNat / 32 * 32 = 224) : Gives prog 57 [.t (.v (.string (ofL (b :: r)))), .t (vi0 96)] rY :=
 pY (oL ((th b) ++ [Dq, (24, wF)])) (by kernel_rfl) ⟨_, rfl⟩ (ai (vS b r hL) (ai (DW b hf)
   (z5 hL).down))
theorem Mq (b : UInt8) (r : LU0) : (pr (b :: r)).map UInt8.toNat = b.toNat % 32 :: r.map UInt8.toNat := by
 show (UInt8.ofNat (b.toNat % 32)).toNat :: r.map UInt8.toNat = _
 rw [UInt8.toNat_ofNat', show b.toNat % 32 % 2 ^ 8 = b.toNat % 32 by omega]
theorem wG (b : UInt8) (r : LU0) : sf (pr (b :: r)) ↔ ∀ i, i < r.length + 1 -> hv (b.toNat % 32) r i = 0 := by
 unfold hv
 rw [← Mq]
 have hl : (pr (b :: r)).length = r.length + 1 := rfl
 constructor
 ·intro h i hi
  have hi' : i < (pr (b :: r)).length := by omega
  rw [List.getElem?_map, List.getElem?_eq_getElem hi', h _ (List.getElem_mem hi')]
  rfl
 ·intro h x hx
  obtain ⟨i, hi, rfl⟩ := List.mem_iff_getElem.1 hx
  have h1 := h i (by omega)
  rw [List.getElem?_map, List.getElem?_eq_getElem hi] at h1
  exact UInt8.toNat_inj.1 h1
theorem Er (b : UInt8) (r : LU0) (h : ¬ sf (pr (b :: r))) : ∃ j, j < r.length + 1 /\ hv (b.toNat % 32) r j ≠ 0 := by
 refine Classical.byContradiction fun hn => h ((wG b r).2 fun i hi => Classical.byContradiction fun hz => hn ⟨i, hi, hz⟩)
def C4 (l : LU0) : tg := [(some (l.length ≠ 48 /\ l.length ≠ 96), .tp [.v (.string (ofL [])), .v (.int .u8 0), vi0 3]), (some ((l.length = 48 /\ px l ≠ 4 /\ px l ≠ 5 /\ px l ≠ 6) ∨ (l.length = 96 /\ px l ≠ 0 /\ px l ≠ 2)), .tp [.v (.string (ofL [])), .v (.int .u8 0), vi0 32]), (some (((l.length = 48 /\ px l = 6) ∨ (l.length = 96 /\ px l = 2)) /\ ¬ sf (pr l)), .tp [.v (.string (ofL [])), .v (.int .u8 0), vi0 33]), (some (l.length = 48 /\ px l = 4), .tp [.v (.string (ofL (pr l))), .v (.int .u8 128), vi0 0]), (some (l.length = 48 /\ px l = 5), .tp [.v (.string (ofL (pr l))), .v (.int .u8 160), vi0 0]), (some (l.length = 96 /\ px l = 0), .tp [.v (.string (ofL (pr l))), .v (.int .u8 0), vi0 0]), (some ((l.length = 48 /\ px l = 6) /\ sf (pr l)), .tp [.v (.string (ofL (pr l))), .v (.int .u8 192), vi0 0]), (some ((l.length = 96 /\ px l = 2) /\ sf (pr l)), .tp [.v (.string (ofL (pr l))), .v (.int .u8 64), vi0 0])]
def NK : Entry := r6 57 XPar.str (XPar.int .i64) (fun l m => match decide (m = 48) with | true => C4 l | false => [])
theorem acR (l : LU0) : ∀ c r, (c, r) ∈ C4 l -> c.getD True -> Gives prog 57 [.t (.v (.string (ofL l))), .t (vi0 48)] r := by
 intro c x hm hc
 simp only [C4, List.mem_cons, pi0, List.not_mem_nil, or_false] at hm
 rcases hm with ⟨rfl, rfl⟩ | ⟨rfl, rfl⟩ | ⟨rfl, rfl⟩ | ⟨rfl, rfl⟩ | ⟨rfl, rfl⟩ | ⟨rfl, rfl⟩ | ⟨rfl, rfl⟩ | ⟨rfl, rfl⟩
 ·exact HC l hc.1 hc.2
 ·match l, hc with
  | [], hc => simp at hc
  | b :: r, hc =>
   have hb := UInt8.toNat_lt b
   rcases hc with ⟨hL, h4, h5, h6⟩ | ⟨hL, h0, h2⟩
   ·have h4 : b.toNat / 32 ≠ 4 := h4
    have h5 : b.toNat / 32 ≠ 5 := h5
    have h6 : b.toNat / 32 ≠ 6 := h6
    obtain h | h | h | h | h : b.toNat / 32 = 0 ∨ b.toNat / 32 = 1 ∨ b.toNat / 32 = 2 ∨ b.toNat / 32 = 3 ∨ b.toNat / 32 = 7 := by omega
    ·exact Kp b r hL (by rw [h])
    ·exact JR b r hL (by rw [h])
    ·exact Lq b r hL (by rw [h])
    ·exact Li b r hL (by rw [h])
    ·exact Ka b r hL (by rw [h])
   ·have h0 : b.toNat / 32 ≠ 0 := h0
    have h2 : b.toNat / 32 ≠ 2 := h2
    obtain h | h | h | h | h | h : b.toNat / 32 = 1 ∨ b.toNat / 32 = 3 ∨ b.toNat / 32 = 4 ∨ b.toNat / 32 = 5 ∨ b.toNat / 32 = 6 ∨ b.toNat / 32 = 7 := by omega
    ·exact Lh b r hL (by rw [h])
    ·exact KO b r hL (by rw [h])
    ·exact Lf b r hL (by rw [h])
    ·exact KW b r hL (by rw [h])
    ·exact La b r hL (by rw [h])
    ·exact J8 b r hL (by rw [h])
 ·match l, hc with
  | [], hc => simp at hc
  | b :: r, hc =>
   obtain ⟨hc, hn⟩ := hc
   obtain ⟨j, hj, hz⟩ := Er b r hn
   rcases hc with ⟨hL, h⟩ | ⟨hL, h⟩
   ·have h : b.toNat / 32 = 6 := h
    exact HK b r hL (by rw [h]) j hj hz
   ·have h : b.toNat / 32 = 2 := h
    exact Ih b r hL (by rw [h]) j hj hz
 ·match l, hc with
  | [], hc => simp at hc
  | b :: r, hc =>
   obtain ⟨hL, h⟩ := hc
   have h : b.toNat / 32 = 4 := h
   exact KY b r hL (by rw [h])
 ·match l, hc with
  | [], hc => simp at hc
  | b :: r, hc =>
   obtain ⟨hL, h⟩ := hc
   have h : b.toNat / 32 = 5 := h
   exact Lo b r hL (by rw [h])
 ·match l, hc with
  | [], hc => simp at hc
  | b :: r, hc =>
   obtain ⟨hL, h⟩ := hc
   have h : b.toNat / 32 = 0 := h
   exact Ko b r hL (by rw [h])
 ·match l, hc with
  | [], hc => simp at hc
  | b :: r, hc =>
   obtain ⟨hL, h⟩ := hc.1
   have h : b.toNat / 32 = 6 := h
   exact H5 b r hL (by rw [h]) ((wG b r).1 hc.2)
 ·match l, hc with
  | [], hc => simp at hc
  | b :: r, hc =>
   obtain ⟨hL, h⟩ := hc.1
   have h : b.toNat / 32 = 2 := h
   exact GO b r hL (by rw [h]) ((wG b r).1 hc.2)
theorem M6 : NK.OK prog := qw (fun args w => Go.Proofs.enters_of (P := prog) func57 (by kernel_rfl) rfl args w) (fun l m c r hm hc => by
 by_cases e : m = 48
 ·subst e
  exact acR l c r hm hc
 ·rw [decide_eq_false e] at hm
  cases hm)
def Df (l : LU0) : tg := [(some (l.length ≠ 96 /\ l.length ≠ 192), .tp [.v (.string (ofL [])), .v (.int .u8 0), vi0 3]), (some ((l.length = 96 /\ px l ≠ 4 /\ px l ≠ 5 /\ px l ≠ 6) ∨ (l.length = 192 /\ px l ≠ 0 /\ px l ≠ 2)), .tp [.v (.string (ofL [])), .v (.int .u8 0), vi0 32]), (some (((l.length = 96 /\ px l = 6) ∨ (l.length = 192 /\ px l = 2)) /\ ¬ sf (pr l)), .tp [.v (.string (ofL [])), .v (.int .u8 0), vi0 33]), (some (l.length = 96 /\ px l = 4), .tp [.v (.string (ofL (pr l))), .v (.int .u8 128), vi0 0]), (some (l.length = 96 /\ px l = 5), .tp [.v (.string (ofL (pr l))), .v (.int .u8 160), vi0 0]), (some (l.length = 192 /\ px l = 0), .tp [.v (.string (ofL (pr l))), .v (.int .u8 0), vi0 0]), (some ((l.length = 96 /\ px l = 6) /\ sf (pr l)), .tp [.v (.string (ofL (pr l))), .v (.int .u8 192), vi0 0]), (some ((l.length = 192 /\ px l = 2) /\ sf (pr l)), .tp [.v (.string (ofL (pr l))), .v (.int .u8 64), vi0 0])]
def LI : Entry := r6 57 XPar.str (XPar.int .i64) (fun l m => match decide (m = 96) with | true => Df l | false => [])
theorem abx (l : LU0) : ∀ c r, (c, r) ∈ Df l -> c.getD True -> Gives prog 57 [.t (.v (.string (ofL l))), .t (vi0 96)] r := by
 intro c x hm hc
 simp only [Df, List.mem_cons, pi0, List.not_mem_nil, or_false] at hm
 rcases hm with ⟨rfl, rfl⟩ | ⟨rfl, rfl⟩ | ⟨rfl, rfl⟩ | ⟨rfl, rfl⟩ | ⟨rfl, rfl⟩ | ⟨rfl, rfl⟩ | ⟨rfl, rfl⟩ | ⟨rfl, rfl⟩
 ·exact G0 l hc.1 hc.2
 ·match l, hc with
  | [], hc => simp at hc
  | b :: r, hc =>
   have hb := UInt8.toNat_lt b
   rcases hc with ⟨hL, h4, h5, h6⟩ | ⟨hL, h0, h2⟩
   ·have h4 : b.toNat / 32 ≠ 4 := h4
    have h5 : b.toNat / 32 ≠ 5 := h5
    have h6 : b.toNat / 32 ≠ 6 := h6
    obtain h | h | h | h | h : b.toNat / 32 = 0 ∨ b.toNat / 32 = 1 ∨ b.toNat / 32 = 2 ∨ b.toNat / 32 = 3 ∨ b.toNat / 32 = 7 := by omega
    ·exact JN b r hL (by rw [h])
    ·exact KQ b r hL (by rw [h])
    ·exact Kv b r hL (by rw [h])
    ·exact Km b r hL (by rw [h])
    ·exact Kl b r hL (by rw [h])
   ·have h0 : b.toNat / 32 ≠ 0 := h0
    have h2 : b.toNat / 32 ≠ 2 := h2
    obtain h | h | h | h | h | h : b.toNat / 32 = 1 ∨ b.toNat / 32 = 3 ∨ b.toNat / 32 = 4 ∨ b.toNat / 32 = 5 ∨ b.toNat / 32 = 6 ∨ b.toNat / 32 = 7 := by omega
    ·exact Kx b r hL (by rw [h])
    ·exact Lr b r hL (by rw [h])
    ·exact Lw b r hL (by rw [h])
    ·exact Lz b r hL (by rw [h])
    ·exact K5 b r hL (by rw [h])
    ·exact KU b r hL (by rw [h])
 ·match l, hc with
  | [], hc => simp at hc
  | b :: r, hc =>
   obtain ⟨hc, hn⟩ := hc
   obtain ⟨j, hj, hz⟩ := Er b r hn
   rcases hc with ⟨hL, h⟩ | ⟨hL, h⟩
   ·have h : b.toNat / 32 = 6 := h
    exact F7 b r hL (by rw [h]) j hj hz
   ·have h : b.toNat / 32 = 2 := h
    exact Hq b r hL (by rw [h]) j hj hz
 ·match l, hc with
  | [], hc => simp at hc
  | b :: r, hc =>
   obtain ⟨hL, h⟩ := hc
   have h : b.toNat / 32 = 4 := h
   exact Kw b r hL (by rw [h])
 ·match l, hc with
  | [], hc => simp at hc
  | b :: r, hc =>
   obtain ⟨hL, h⟩ := hc
   have h : b.toNat / 32 = 5 := h
   exact KX b r hL (by rw [h])
 ·match l, hc with
  | [], hc => simp at hc
  | b :: r, hc =>
   obtain ⟨hL, h⟩ := hc
   have h : b.toNat / 32 = 0 := h
   exact Lp b r hL (by rw [h])
 ·match l, hc with
  | [], hc => simp at hc
  | b :: r, hc =>
   obtain ⟨hL, h⟩ := hc.1
   have h : b.toNat / 32 = 6 := h
   exact GV b r hL (by rw [h]) ((wG b r).1 hc.2)
 ·match l, hc with
  | [], hc => simp at hc
  | b :: r, hc =>
   obtain ⟨hL, h⟩ := hc.1
   have h : b.toNat / 32 = 2 := h
   exact G9 b r hL (by rw [h]) ((wG b r).1 hc.2)
theorem LG : LI.OK prog := qw (fun args w => Go.Proofs.enters_of (P := prog) func57 (by kernel_rfl) rfl args w) (fun l m c r hm hc => by
 by_cases e : m = 96
 ·subst e
  exact abx l c r hm hc
 ·rw [decide_eq_false e] at hm
  cases hm)
end Go.Proofs.YtokjhbmmdmeafaaGreat
set_option linter.unusedSimpArgs false
set_option linter.unusedVariables false
namespace Go.Proofs.YtokjhbmmdmeafaaGreat
open Go.Ev Go.RowKit
open Tryz
theorem pB (l : LU0) : (pr l).length = l.length := by
 match l with
 | [] => rfl
 | b :: r => rfl
theorem xe (l : LU0) : (ofL (pr l)).size = l.length := pB l
theorem zd (l : LU0) (n : Nat) : (ofL ((pr l).drop n)).size = l.length - n := by
 show ((pr l).drop n).length = _
 rw [List.length_drop, pB]
theorem GC (l : LU0) (n k : Nat) : (ofL (((pr l).drop n).drop k)).size = l.length - n - k := by
 show (((pr l).drop n).drop k).length = _
 rw [List.length_drop, List.length_drop, pB]
def nX (l : LU0) : Nat := deN 48 ((pr l).take 48)
def nY (l : LU0) : Nat := deN 48 (((pr l).drop 48).take 48)
def sy1 (a : Fin Pp) (high : Bool) : Fin Pp := match high with | true => -(lowP (rtP a)) | false => lowP (rtP a)
abbrev B6 : List Ch := [.c (.int .u64 0), .c (.int .u64 0), .c (.int .u64 0), .c (.int .u64 0), .c (.int .u64 0), .c (.int .u64 0), .c (.int .u64 0), .c (.int .u64 0), .c (.int .u64 0), .c (.int .u64 0), .c (.int .u64 0), .c (.int .u64 0), .c (.bool false)]
abbrev rp (l : LU0) : List XV := [.t (.v (.string (ofL l)))]
theorem rn {a : List XV} {r : AV} {b : Prop} (o : LO0) (hb : b) (h : fnA prog (qz _) [NK, Bv, zZ, qa, qE, sE, we, uk, tJ, Cs, Oc] 2 (oL o) f27 a = some (r, b) := by kernel_rfl) (hv : ∃ v, r.val? = some v := by exact ⟨_, rfl⟩) : Gives prog 27 a r := pz (P := prog) (X := qz _) (env := [NK, Bv, zZ, qa, qE, sE, we, uk, tJ, Cs, Oc]) ⟨M6, Cm, u9, pR, pW, qe, tz, rt, q9, yM, M1, tt0⟩ func27 2 (oL o) h hv hb
theorem Su (l : LU0) (h : l.length ≠ 48 /\ l.length ≠ 96) : Gives prog 27 (rp l) (.tp [.ag B6, vi0 3]) :=
 rn [(3, wO 0)] (ai (show l.length ≠ 48 /\ l.length ≠ 96 from h) tt0)
theorem Mm (l : LU0) (h : (l.length = 48 /\ px l ≠ 4 /\ px l ≠ 5 /\ px l ≠ 6) ∨ (l.length = 96 /\ px l ≠ 0 /\ px l ≠ 2)) : Gives prog 27 (rp l) (.tp [.ag B6, vi0 32]) :=
 rn [(3, wO 1)] (ai (show (l.length = 48 /\ px l ≠ 4 /\ px l ≠ 5 /\ px l ≠ 6) ∨ (l.length = 96 /\ px l ≠ 0 /\ px l ≠ 2) from h) tt0)
theorem OP (l : LU0) (h : ((l.length = 48 /\ px l = 6) ∨ (l.length = 96 /\ px l = 2)) /\ ¬ sf (pr l)) : Gives prog 27 (rp l) (.tp [.ag B6, vi0 33]) :=
 rn [(3, wO 2)] (ai (show ((l.length = 48 /\ px l = 6) ∨ (l.length = 96 /\ px l = 2)) /\ ¬ sf (pr l) from h) tt0)
abbrev OM : AV := .tp [.ag [.c (.int .u64 0), .c (.int .u64 0), .c (.int .u64 0), .c (.int .u64 0), .c (.int .u64 0), .c (.int .u64 0), .c (.int .u64 0), .c (.int .u64 0), .c (.int .u64 0), .c (.int .u64 0), .c (.int .u64 0), .c (.int .u64 0), .c (.bool true)], vi0 0]
theorem Sg (l : LU0) (h : (l.length = 48 /\ px l = 6) /\ sf (pr l)) : Gives prog 27 (rp l) OM :=
 rn [(3, wO 6)] (ai (show (l.length = 48 /\ px l = 6) /\ sf (pr l) from h) tt0)
theorem QX (l : LU0) (h : (l.length = 96 /\ px l = 2) /\ sf (pr l)) : Gives prog 27 (rp l) OM :=
 rn [(3, wO 7)] (ai (show (l.length = 96 /\ px l = 2) /\ sf (pr l) from h) tt0)
theorem Db (l : LU0) (hL : l.length = 48) : (((ofL ((pr l).drop 48)).size : Nat) : Int) = ((0 : Nat) : Int) := by rw [zd, hL]
theorem wC (l : LU0) (hL : l.length = 48) : (0 : Int) <= 48 /\ (48 : Int) <= (ofL (pr l)).size := ⟨by decide, by rw [xe, hL]; decide⟩
theorem QF (l : LU0) (hL : l.length = 48) (h : 4002409555221667393417789825735904156556882819939007885332058136124031650490837864442687629129015664037894272559787 <= nX l) : ((pr l).take 48).length = 48 /\ 4002409555221667393417789825735904156556882819939007885332058136124031650490837864442687629129015664037894272559787 <= deN 48 ((pr l).take 48) := ⟨by simp only [List.length_take, List.length_drop, pB, hL]; rfl, h⟩
theorem DP (l : LU0) (hL : l.length = 48) : (((ofL (pr l)).size : Nat) : Int) = ((48 : Nat) : Int) := by rw [xe, hL]
def xY : Ora := { ch := 1, hi := fun _ => 48 }
abbrev AS (l : LU0) : Prop := 4002409555221667393417789825735904156556882819939007885332058136124031650490837864442687629129015664037894272559787 <= nX l
abbrev Bb : AV := .tp [.ag B6, vi0 20]
theorem LF (l : LU0) (hL : l.length = 48) (ht : px l = 4) (h : AS l) : Gives prog 27 (rp l) Bb :=
 rn [(3, wO 3), (29, xY), (36, rO 5 0), (37, wO 2), (45, rO 5 0), (57, tW)] (ai (Db l hL) (ai (wC l hL) (ai (QF l hL h) (ai (wC l hL) (ai (DP l hL) (ai (show l.length = 48 /\ px l = 4 from ⟨hL, ht⟩) tt0))))))
theorem No (l : LU0) (hL : l.length = 48) (h : nX l < 4002409555221667393417789825735904156556882819939007885332058136124031650490837864442687629129015664037894272559787) : ((pr l).take 48).length = 48 /\ deN 48 ((pr l).take 48) < 4002409555221667393417789825735904156556882819939007885332058136124031650490837864442687629129015664037894272559787 := ⟨by simp only [List.length_take, List.length_drop, pB, hL]; rfl, h⟩
abbrev pu (l : LU0) := ofP (deN 48 ((pr l).take 48))
abbrev un (l : LU0) : Prop := nX l < 4002409555221667393417789825735904156556882819939007885332058136124031650490837864442687629129015664037894272559787
def HF {l : LU0} (hL : l.length = 48) (ht : px l = 4) (h : un l) := PLift.up (ai (Db l hL) (ai (wC l hL) (ai (No l hL h) (ai (wC l hL) (ai (DP l hL) (ai (show l.length = 48 /\ px l = 4 from ⟨hL, ht⟩) tt0))))))
abbrev Gn : AV := .tp [.ag B6, vi0 30]
def Hm : LO0 := [(3, wO 3), (29, xY), (36, rO 5 0), (37, wO 1), (45, rO 5 0), (57, tW)]
theorem QB (l : LU0) (hL : l.length = 48) (ht : px l = 4) (h : un l) (hq : ¬ sqP ((pu l) * (pu l) * (pu l) + ofP (4 % 18446744073709551616))) : Gives prog 27 (rp l) Gn :=
 rn (Hm ++ [(92, wO 1)]) (ai (show ¬ sqP ((pu l) * (pu l) * (pu l) + ofP (4 % 18446744073709551616)) from hq)
   (HF hL ht h).down)
theorem C5 (l : LU0) (hq : sqP ((ofP (deN 48 ((pr l).take 48))) * (ofP (deN 48 ((pr l).take 48))) * (ofP (deN 48 ((pr l).take 48))) + ofP (4 % 18446744073709551616))) : sqP ((ofP (deN 48 ((pr l).take 48))) * (ofP (deN 48 ((pr l).take 48))) * (ofP (deN 48 ((pr l).take 48))) + ofP (4 % 18446744073709551616)) := hq
abbrev Gh : AV := .tp [.ag B6, vi0 31]
theorem Mw (l : LU0) (hL : l.length = 48) (ht : px l = 4) (h : un l) (hq : sqP ((pu l) * (pu l) * (pu l) + ofP (4 % 18446744073709551616))) (hg : sml1 ((pu l).val, (lowP (rtP ((pu l) * (pu l) * (pu l) + ofP (4 % 18446744073709551616)))).val, false) /\ may1 ((pu l).val, (lowP (rtP ((pu l) * (pu l) * (pu l) + ofP (4 % 18446744073709551616)))).val, false) /\ ¬ sA ((pu l).val, (lowP (rtP ((pu l) * (pu l) * (pu l) + ofP (4 % 18446744073709551616)))).val, false)) : Gives prog 27 (rp l) Gh :=
 rn (Hm ++ [(92, wO 0), (109, wO 0), (113, wO 1)]) (ai (show sml1 ((pu l).val, (lowP (rtP ((pu l) * (pu l) * (pu l) + ofP (4 % 18446744073709551616)))).val, false) /\ may1 ((pu l).val, (lowP (rtP ((pu l) * (pu l) * (pu l) + ofP (4 % 18446744073709551616)))).val, false) /\ ¬ sA ((pu l).val, (lowP (rtP ((pu l) * (pu l) * (pu l) + ofP (4 % 18446744073709551616)))).val, false) from hg) (ai (show sml1 ((pu l).val, (lowP (rtP ((pu l) * (pu l) * (pu l) + ofP (4 % 18446744073709551616)))).val, false) /\ may1 ((pu l).val, (lowP (rtP ((pu l) * (pu l) * (pu l) + ofP (4 % 18446744073709551616)))).val, false) from ⟨hg.1, hg.2.1⟩) (ai (C5 l hq)
   (HF hL ht h).down)))
theorem KL (l : LU0) (hL : l.length = 48) (ht : px l = 4) (h : un l) (hq : sqP ((pu l) * (pu l) * (pu l) + ofP (4 % 18446744073709551616))) (hg : sml1 ((pu l).val, (lowP (rtP ((pu l) * (pu l) * (pu l) + ofP (4 % 18446744073709551616)))).val, false) /\ may1 ((pu l).val, (lowP (rtP ((pu l) * (pu l) * (pu l) + ofP (4 % 18446744073709551616)))).val, false) /\ sA ((pu l).val, (lowP (rtP ((pu l) * (pu l) * (pu l) + ofP (4 % 18446744073709551616)))).val, false)) : Gives prog 27 (rp l) (.tp [.ag [.q (ofP (deN 48 ((pr l).take 48))), .q (lowP (rtP ((ofP (deN 48 ((pr l).take 48))) * (ofP (deN 48 ((pr l).take 48))) * (ofP (deN 48 ((pr l).take 48))) + ofP (4 % 18446744073709551616)))), .c (.bool false)], vi0 0]) :=
 rn (Hm ++ [(92, wO 0), (109, wO 0), (113, wO 0)]) (ai (show sml1 ((pu l).val, (lowP (rtP ((pu l) * (pu l) * (pu l) + ofP (4 % 18446744073709551616)))).val, false) /\ may1 ((pu l).val, (lowP (rtP ((pu l) * (pu l) * (pu l) + ofP (4 % 18446744073709551616)))).val, false) /\ sA ((pu l).val, (lowP (rtP ((pu l) * (pu l) * (pu l) + ofP (4 % 18446744073709551616)))).val, false) from hg) (ai (show sml1 ((pu l).val, (lowP (rtP ((pu l) * (pu l) * (pu l) + ofP (4 % 18446744073709551616)))).val, false) /\ may1 ((pu l).val, (lowP (rtP ((pu l) * (pu l) * (pu l) + ofP (4 % 18446744073709551616)))).val, false) from ⟨hg.1, hg.2.1⟩) (ai (C5 l hq)
   (HF hL ht h).down)))
theorem Ps (l : LU0) (hL : l.length = 48) (ht : px l = 5) (h : AS l) : Gives prog 27 (rp l) Bb :=
 rn [(3, wO 4), (29, xY), (36, rO 5 0), (37, wO 2), (45, rO 5 0), (57, tW)] (ai (Db l hL) (ai (wC l hL) (ai (QF l hL h) (ai (wC l hL) (ai (DP l hL) (ai (show l.length = 48 /\ px l = 5 from ⟨hL, ht⟩) tt0))))))
def HQ {l : LU0} (hL : l.length = 48) (ht : px l = 5) (h : un l) := PLift.up (ai (Db l hL) (ai (wC l hL) (ai (No l hL h) (ai (wC l hL) (ai (DP l hL) (ai (show l.length = 48 /\ px l = 5 from ⟨hL, ht⟩) tt0))))))
def Gw : LO0 := [(3, wO 4), (29, xY), (36, rO 5 0), (37, wO 1), (45, rO 5 0), (57, tW)]
theorem M5 (l : LU0) (hL : l.length = 48) (ht : px l = 5) (h : un l) (hq : ¬ sqP ((pu l) * (pu l) * (pu l) + ofP (4 % 18446744073709551616))) : Gives prog 27 (rp l) Gn :=
 rn (Gw ++ [(92, wO 1)]) (ai (show ¬ sqP ((pu l) * (pu l) * (pu l) + ofP (4 % 18446744073709551616)) from hq)
   (HQ hL ht h).down)
theorem Py (l : LU0) (hL : l.length = 48) (ht : px l = 5) (h : un l) (hq : sqP ((pu l) * (pu l) * (pu l) + ofP (4 % 18446744073709551616))) (hg : sml1 ((pu l).val, (-(lowP (rtP ((pu l) * (pu l) * (pu l) + ofP (4 % 18446744073709551616))))).val, false) /\ may1 ((pu l).val, (-(lowP (rtP ((pu l) * (pu l) * (pu l) + ofP (4 % 18446744073709551616))))).val, false) /\ ¬ sA ((pu l).val, (-(lowP (rtP ((pu l) * (pu l) * (pu l) + ofP (4 % 18446744073709551616))))).val, false)) : Gives prog 27 (rp l) Gh :=
 rn (Gw ++ [(92, wO 0), (112, wO 0), (116, wO 1)]) (ai (show sml1 ((pu l).val, (-(lowP (rtP ((pu l) * (pu l) * (pu l) + ofP (4 % 18446744073709551616))))).val, false) /\ may1 ((pu l).val, (-(lowP (rtP ((pu l) * (pu l) * (pu l) + ofP (4 % 18446744073709551616))))).val, false) /\ ¬ sA ((pu l).val, (-(lowP (rtP ((pu l) * (pu l) * (pu l) + ofP (4 % 18446744073709551616))))).val, false) from hg) (ai (show sml1 ((pu l).val, (-(lowP (rtP ((pu l) * (pu l) * (pu l) + ofP (4 % 18446744073709551616))))).val, false) /\ may1 ((pu l).val, (-(lowP (rtP ((pu l) * (pu l) * (pu l) + ofP (4 % 18446744073709551616))))).val, false) from ⟨hg.1, hg.2.1⟩) (ai (C5 l hq)
   (HQ hL ht h).down)))
theorem Ln (l : LU0) (hL : l.length = 48) (ht : px l = 5) (h : un l) (hq : sqP ((pu l) * (pu l) * (pu l) + ofP (4 % 18446744073709551616))) (hg : sml1 ((pu l).val, (-(lowP (rtP ((pu l) * (pu l) * (pu l) + ofP (4 % 18446744073709551616))))).val, false) /\ may1 ((pu l).val, (-(lowP (rtP ((pu l) * (pu l) * (pu l) + ofP (4 % 18446744073709551616))))).val, false) /\ sA ((pu l).val, (-(lowP (rtP ((pu l) * (pu l) * (pu l) + ofP (4 % 18446744073709551616))))).val, false)) : Gives prog 27 (rp l) (.tp [.ag [.q (ofP (deN 48 ((pr l).take 48))), .q (-(lowP (rtP ((ofP (deN 48 ((pr l).take 48))) * (ofP (deN 48 ((pr l).take 48))) * (ofP (deN 48 ((pr l).take 48))) + ofP (4 % 18446744073709551616))))), .c (.bool false)], vi0 0]) :=
 rn (Gw ++ [(92, wO 0), (112, wO 0), (116, wO 0)]) (ai (show sml1 ((pu l).val, (-(lowP (rtP ((pu l) * (pu l) * (pu l) + ofP (4 % 18446744073709551616))))).val, false) /\ may1 ((pu l).val, (-(lowP (rtP ((pu l) * (pu l) * (pu l) + ofP (4 % 18446744073709551616))))).val, false) /\ sA ((pu l).val, (-(lowP (rtP ((pu l) * (pu l) * (pu l) + ofP (4 % 18446744073709551616))))).val, false) from hg) (ai (show sml1 ((pu l).val, (-(lowP (rtP ((pu l) * (pu l) * (pu l) + ofP (4 % 18446744073709551616))))).val, false) /\ may1 ((pu l).val, (-(lowP (rtP ((pu l) * (pu l) * (pu l) + ofP (4 % 18446744073709551616))))).val, false) from ⟨hg.1, hg.2.1⟩) (ai (C5 l hq)
   (HQ hL ht h).down)))
theorem CZ (l : LU0) (hL : l.length = 96) : (((ofL (((pr l).drop 48).drop 48)).size : Nat) : Int) = ((0 : Nat) : Int) := by rw [GC, hL]
theorem yX (l : LU0) (hL : l.length = 96) : (0 : Int) <= 48 /\ (48 : Int) <= (ofL ((pr l).drop 48)).size := ⟨by decide, by rw [zd, hL]; decide⟩
theorem MT (l : LU0) (hL : l.length = 96) (h2 : nY l < 4002409555221667393417789825735904156556882819939007885332058136124031650490837864442687629129015664037894272559787) : (((pr l).drop 48).take 48).length = 48 /\ deN 48 (((pr l).drop 48).take 48) < 4002409555221667393417789825735904156556882819939007885332058136124031650490837864442687629129015664037894272559787 := ⟨by simp only [List.length_take, List.length_drop, pB, hL]; rfl, h2⟩
theorem LV (l : LU0) (hL : l.length = 96) : (((ofL ((pr l).drop 48)).size : Nat) : Int) = ((48 : Nat) : Int) := by rw [zd, hL]
theorem DG (l : LU0) (hL : l.length = 96) : (0 : Int) <= 48 /\ (48 : Int) <= (ofL (pr l)).size := ⟨by decide, by rw [xe, hL]; decide⟩
theorem UB (l : LU0) (hL : l.length = 96) (h1 : nX l < 4002409555221667393417789825735904156556882819939007885332058136124031650490837864442687629129015664037894272559787) : ((pr l).take 48).length = 48 /\ deN 48 ((pr l).take 48) < 4002409555221667393417789825735904156556882819939007885332058136124031650490837864442687629129015664037894272559787 := ⟨by simp only [List.length_take, List.length_drop, pB, hL]; rfl, h1⟩
theorem PJ (l : LU0) (hL : l.length = 96) : (((ofL (pr l)).size : Nat) : Int) = ((96 : Nat) : Int) := by rw [xe, hL]
theorem NQ (l : LU0) (hL : l.length = 96) (ht : px l = 0) : l.length = 96 /\ px l = 0 := ⟨hL, ht⟩
abbrev sp (l : LU0) := ((pu l).val, (ofP (deN 48 (((pr l).drop 48).take 48))).val, false)
def S5 {l : LU0} (hL : l.length = 96) (ht : px l = 0) (h1 : un l) := PLift.up (ai (yX l hL) (ai (LV l hL) (ai (DG l hL) (ai (UB l hL h1) (ai (DG l hL) (ai (PJ l hL) (ai (NQ l hL ht) tt0)))))))
abbrev A8 (l : LU0) : Prop := nY l < 4002409555221667393417789825735904156556882819939007885332058136124031650490837864442687629129015664037894272559787
def HR {l : LU0} (hL : l.length = 96) (ht : px l = 0) (h1 : un l) (h2 : A8 l) := PLift.up (ai (CZ l hL) (ai (yX l hL) (ai (MT l hL h2)
   (S5 hL ht h1).down)))
def GR : LO0 := [(3, wO 5), (29, xR), (36, rO 5 0), (37, wO 1), (45, rO 5 0), (57, xY), (64, rO 5 0), (65, wO 1), (73, rO 5 0), (85, tW)]
theorem RK (l : LU0) (hL : l.length = 96) (ht : px l = 0) (h1 : un l) (h2 : A8 l) (hr : sml1 (sp l) /\ ¬ may1 (sp l)) : Gives prog 27 (rp l) Gn :=
 rn (GR ++ [(114, wO 1)]) (ai (show sml1 (sp l) /\ ¬ may1 (sp l) from hr)
   (HR hL ht h1 h2).down)
theorem Sq (l : LU0) (hL : l.length = 96) (ht : px l = 0) (h1 : un l) (h2 : A8 l) (hg : sml1 (sp l) /\ may1 (sp l) /\ ¬ sA (sp l)) : Gives prog 27 (rp l) Gh :=
 rn (GR ++ [(114, wO 0), (118, wO 1)]) (ai (show sml1 (sp l) /\ may1 (sp l) /\ ¬ sA (sp l) from hg) (ai (show sml1 (sp l) /\ may1 (sp l) from ⟨hg.1, hg.2.1⟩)
   (HR hL ht h1 h2).down))
theorem Na (l : LU0) (hL : l.length = 96) (ht : px l = 0) (h1 : un l) (h2 : A8 l) (hg : sml1 (sp l) /\ may1 (sp l) /\ sA (sp l)) : Gives prog 27 (rp l) (.tp [.ag [.q (ofP (deN 48 ((pr l).take 48))), .q (ofP (deN 48 (((pr l).drop 48).take 48))), .c (.bool false)], vi0 0]) :=
 rn (GR ++ [(114, wO 0), (118, wO 0)]) (ai (show sml1 (sp l) /\ may1 (sp l) /\ sA (sp l) from hg) (ai (show sml1 (sp l) /\ may1 (sp l) from ⟨hg.1, hg.2.1⟩)
   (HR hL ht h1 h2).down))
theorem Qm (l : LU0) (hL : l.length = 96) (h2 : 4002409555221667393417789825735904156556882819939007885332058136124031650490837864442687629129015664037894272559787 <= nY l) : (((pr l).drop 48).take 48).length = 48 /\ 4002409555221667393417789825735904156556882819939007885332058136124031650490837864442687629129015664037894272559787 <= deN 48 (((pr l).drop 48).take 48) := ⟨by simp only [List.length_take, List.length_drop, pB, hL]; rfl, h2⟩
abbrev OU (l : LU0) : Prop := 4002409555221667393417789825735904156556882819939007885332058136124031650490837864442687629129015664037894272559787 <= nY l
theorem LW (l : LU0) (hL : l.length = 96) (ht : px l = 0) (h1 : un l) (h2 : OU l) : Gives prog 27 (rp l) Bb :=
 rn [(3, wO 5), (29, xR), (36, rO 5 0), (37, wO 1), (45, rO 5 0), (57, xY), (64, rO 5 0), (65, wO 2), (73, rO 5 0), (85, tW)] (ai (CZ l hL) (ai (yX l hL) (ai (Qm l hL h2)
   (S5 hL ht h1).down)))
theorem UY (l : LU0) (hL : l.length = 96) (h1 : 4002409555221667393417789825735904156556882819939007885332058136124031650490837864442687629129015664037894272559787 <= nX l) : ((pr l).take 48).length = 48 /\ 4002409555221667393417789825735904156556882819939007885332058136124031650490837864442687629129015664037894272559787 <= deN 48 ((pr l).take 48) := ⟨by simp only [List.length_take, List.length_drop, pB, hL]; rfl, h1⟩
def MH {l : LU0} (hL : l.length = 96) (ht : px l = 0) (h1 : AS l) := PLift.up (ai (yX l hL) (ai (LV l hL) (ai (DG l hL) (ai (UY l hL h1) (ai (DG l hL) (ai (PJ l hL) (ai (NQ l hL ht) tt0)))))))
def OC : LO0 := [(3, wO 5), (29, xR), (36, rO 5 0), (37, wO 2), (45, rO 5 0), (57, xY), (64, rO 5 0)]
theorem LL (l : LU0) (hL : l.length = 96) (ht : px l = 0) (h1 : AS l) (h2 : A8 l) : Gives prog 27 (rp l) Bb :=
 rn (OC ++ [(65, wO 1), (73, rO 5 0), (83, tW)]) (ai (CZ l hL) (ai (yX l hL) (ai (MT l hL h2)
   (MH hL ht h1).down)))
theorem L0 (l : LU0) (hL : l.length = 96) (ht : px l = 0) (h1 : AS l) (h2 : OU l) : Gives prog 27 (rp l) Bb :=
 rn (OC ++ [(65, wO 2), (73, rO 5 0), (83, tW)]) (ai (CZ l hL) (ai (yX l hL) (ai (Qm l hL h2)
   (MH hL ht h1).down)))
def sh1 (l : LU0) : Prop := l.length = 48 /\ (px l = 4 ∨ px l = 5)
def lo1 (l : LU0) : Prop := l.length = 96 /\ px l = 0
theorem IQ (a : Fin Pp) (hq : sqP a) : lowP (rtP a) * lowP (rtP a) = a := (Bl _).trans hq
theorem Vu (a : Fin Pp) : -a * -a = a * a := by grind
theorem tS (x y : Fin Pp) (b : Bool) : sml1 (x.val, y.val, b) := ⟨vE x, vE y⟩
theorem yf (x : Fin Pp) (h : Bool) (hq : sqP (sJ x)) : may1 (x.val, (sy1 (sJ x) h).val, false) := by
 show is1 x.val /\ is1 (sy1 (sJ x) h).val /\ ofP (sy1 (sJ x) h).val * ofP (sy1 (sJ x) h).val = sJ (ofP x.val)
 refine ⟨x.isLt, (sy1 (sJ x) h).isLt, ?_⟩
 rw [yr, yr]
 cases h
 ·exact IQ _ hq
 ·show -(lowP (rtP (sJ x))) * -(lowP (rtP (sJ x))) = sJ x
  rw [Vu]; exact IQ _ hq
def altG1 (l : LU0) : tg := [(some (l.length ≠ 48 /\ l.length ≠ 96), .tp [.ag [.c (.int .u64 0), .c (.int .u64 0), .c (.int .u64 0), .c (.int .u64 0), .c (.int .u64 0), .c (.int .u64 0), .c (.int .u64 0), .c (.int .u64 0), .c (.int .u64 0), .c (.int .u64 0), .c (.int .u64 0), .c (.int .u64 0), .c (.bool false)], vi0 3]), (some ((l.length = 48 /\ px l ≠ 4 /\ px l ≠ 5 /\ px l ≠ 6) ∨ (l.length = 96 /\ px l ≠ 0 /\ px l ≠ 2)), .tp [.ag [.c (.int .u64 0), .c (.int .u64 0), .c (.int .u64 0), .c (.int .u64 0), .c (.int .u64 0), .c (.int .u64 0), .c (.int .u64 0), .c (.int .u64 0), .c (.int .u64 0), .c (.int .u64 0), .c (.int .u64 0), .c (.int .u64 0), .c (.bool false)], vi0 32]), (some (((l.length = 48 /\ px l = 6) ∨ (l.length = 96 /\ px l = 2)) /\ ¬ sf (pr l)), .tp [.ag [.c (.int .u64 0), .c (.int .u64 0), .c (.int .u64 0), .c (.int .u64 0), .c (.int .u64 0), .c (.int .u64 0), .c (.int .u64 0), .c (.int .u64 0), .c (.int .u64 0), .c (.int .u64 0), .c (.int .u64 0), .c (.int .u64 0), .c (.bool false)], vi0 33]), (some (((l.length = 48 /\ px l = 6) ∨ (l.length = 96 /\ px l = 2)) /\ sf (pr l)), .tp [.ag [.c (.int .u64 0), .c (.int .u64 0), .c (.int .u64 0), .c (.int .u64 0), .c (.int .u64 0), .c (.int .u64 0), .c (.int .u64 0), .c (.int .u64 0), .c (.int .u64 0), .c (.int .u64 0), .c (.int .u64 0), .c (.int .u64 0), .c (.bool true)], vi0 0]), (some (sh1 l /\ ¬ nX l < Pp), .tp [.ag [.c (.int .u64 0), .c (.int .u64 0), .c (.int .u64 0), .c (.int .u64 0), .c (.int .u64 0), .c (.int .u64 0), .c (.int .u64 0), .c (.int .u64 0), .c (.int .u64 0), .c (.int .u64 0), .c (.int .u64 0), .c (.int .u64 0), .c (.bool false)], vi0 20]), (some (sh1 l /\ nX l < Pp /\ ¬ sqP (sJ (ofP (nX l)))), .tp [.ag [.c (.int .u64 0), .c (.int .u64 0), .c (.int .u64 0), .c (.int .u64 0), .c (.int .u64 0), .c (.int .u64 0), .c (.int .u64 0), .c (.int .u64 0), .c (.int .u64 0), .c (.int .u64 0), .c (.int .u64 0), .c (.int .u64 0), .c (.bool false)], vi0 30]), (some (sh1 l /\ nX l < Pp /\ sqP (sJ (ofP (nX l))) /\ ¬ sA ((ofP (nX l)).val, (sy1 (sJ (ofP (nX l))) (decide (px l = 5))).val, false)), .tp [.ag [.c (.int .u64 0), .c (.int .u64 0), .c (.int .u64 0), .c (.int .u64 0), .c (.int .u64 0), .c (.int .u64 0), .c (.int .u64 0), .c (.int .u64 0), .c (.int .u64 0), .c (.int .u64 0), .c (.int .u64 0), .c (.int .u64 0), .c (.bool false)], vi0 31]), (some (sh1 l /\ nX l < Pp /\ sqP (sJ (ofP (nX l))) /\ sA ((ofP (nX l)).val, (sy1 (sJ (ofP (nX l))) (decide (px l = 5))).val, false)), .tp [.ag [.q (ofP (nX l)), .q (sy1 (sJ (ofP (nX l))) (decide (px l = 5))), .c (.bool false)], vi0 0]), (some (lo1 l /\ ¬ (nX l < Pp /\ nY l < Pp)), .tp [.ag [.c (.int .u64 0), .c (.int .u64 0), .c (.int .u64 0), .c (.int .u64 0), .c (.int .u64 0), .c (.int .u64 0), .c (.int .u64 0), .c (.int .u64 0), .c (.int .u64 0), .c (.int .u64 0), .c (.int .u64 0), .c (.int .u64 0), .c (.bool false)], vi0 20]), (some (lo1 l /\ (nX l < Pp /\ nY l < Pp) /\ ¬ may1 ((ofP (nX l)).val, (ofP (nY l)).val, false)), .tp [.ag [.c (.int .u64 0), .c (.int .u64 0), .c (.int .u64 0), .c (.int .u64 0), .c (.int .u64 0), .c (.int .u64 0), .c (.int .u64 0), .c (.int .u64 0), .c (.int .u64 0), .c (.int .u64 0), .c (.int .u64 0), .c (.int .u64 0), .c (.bool false)], vi0 30]), (some (lo1 l /\ (nX l < Pp /\ nY l < Pp) /\ may1 ((ofP (nX l)).val, (ofP (nY l)).val, false) /\ ¬ sA ((ofP (nX l)).val, (ofP (nY l)).val, false)), .tp [.ag [.c (.int .u64 0), .c (.int .u64 0), .c (.int .u64 0), .c (.int .u64 0), .c (.int .u64 0), .c (.int .u64 0), .c (.int .u64 0), .c (.int .u64 0), .c (.int .u64 0), .c (.int .u64 0), .c (.int .u64 0), .c (.int .u64 0), .c (.bool false)], vi0 31]), (some (lo1 l /\ (nX l < Pp /\ nY l < Pp) /\ may1 ((ofP (nX l)).val, (ofP (nY l)).val, false) /\ sA ((ofP (nX l)).val, (ofP (nY l)).val, false)), .tp [.ag [.q (ofP (nX l)), .q (ofP (nY l)), .c (.bool false)], vi0 0])]
theorem Pt (l : LU0) : ∀ c r, (c, r) ∈ altG1 l -> c.getD True -> Gives prog 27 [.t (.v (.string (ofL l)))] r := by
 intro c x hm hc
 simp only [altG1, List.mem_cons, pi0, List.not_mem_nil, or_false] at hm
 rcases hm with ⟨rfl, rfl⟩ | ⟨rfl, rfl⟩ | ⟨rfl, rfl⟩ | ⟨rfl, rfl⟩ | ⟨rfl, rfl⟩ | ⟨rfl, rfl⟩ | ⟨rfl, rfl⟩ | ⟨rfl, rfl⟩ | ⟨rfl, rfl⟩ | ⟨rfl, rfl⟩ | ⟨rfl, rfl⟩ | ⟨rfl, rfl⟩
 ·exact Su l hc
 ·exact Mm l hc
 ·exact OP l hc
 ·obtain ⟨h | h, hz⟩ := hc
  ·exact Sg l ⟨h, hz⟩
  ·exact QX l ⟨h, hz⟩
 ·obtain ⟨⟨hL, ht | ht⟩, h⟩ := hc
  ·exact LF l hL ht (Nat.le_of_not_lt h)
  ·exact Ps l hL ht (Nat.le_of_not_lt h)
 ·obtain ⟨⟨hL, ht | ht⟩, h, hq⟩ := hc
  ·exact QB l hL ht h hq
  ·exact M5 l hL ht h hq
 ·obtain ⟨⟨hL, ht | ht⟩, h, hq, hg⟩ := hc
  ·have e : decide (px l = 5) = false := by rw [ht]; rfl
   rw [e] at hg
   exact Mw l hL ht h hq ⟨tS _ _ _, yf _ false hq, hg⟩
  ·have e : decide (px l = 5) = true := by rw [ht]; rfl
   rw [e] at hg
   exact Py l hL ht h hq ⟨tS _ _ _, yf _ true hq, hg⟩
 ·obtain ⟨⟨hL, ht | ht⟩, h, hq, hg⟩ := hc
  ·have e : decide (px l = 5) = false := by rw [ht]; rfl
   rw [e] at hg ⊢
   exact KL l hL ht h hq ⟨tS _ _ _, yf _ false hq, hg⟩
  ·have e : decide (px l = 5) = true := by rw [ht]; rfl
   rw [e] at hg ⊢
   exact Ln l hL ht h hq ⟨tS _ _ _, yf _ true hq, hg⟩
 ·obtain ⟨⟨hL, ht⟩, h⟩ := hc
  by_cases h1 : nX l < Pp
  ·by_cases h2 : nY l < Pp
   ·exact absurd ⟨h1, h2⟩ h
   ·exact LW l hL ht h1 (Nat.le_of_not_lt h2)
  ·by_cases h2 : nY l < Pp
   ·exact LL l hL ht (Nat.le_of_not_lt h1) h2
   ·exact L0 l hL ht (Nat.le_of_not_lt h1) (Nat.le_of_not_lt h2)
 ·obtain ⟨⟨hL, ht⟩, ⟨h1, h2⟩, hr⟩ := hc
  exact RK l hL ht h1 h2 ⟨tS _ _ _, hr⟩
 ·obtain ⟨⟨hL, ht⟩, ⟨h1, h2⟩, hr, hg⟩ := hc
  exact Sq l hL ht h1 h2 ⟨tS _ _ _, hr, hg⟩
 ·obtain ⟨⟨hL, ht⟩, ⟨h1, h2⟩, hr, hg⟩ := hc
  exact Na l hL ht h1 h2 ⟨tS _ _ _, hr, hg⟩
end Go.Proofs.YtokjhbmmdmeafaaGreat
