/- Pruned: Ge. -/
import Derived.Test.YtbejkhmdmojojaaGreatQGc
import Derived.Test.YtbejkhmdmojojaaGreatQGa
/- Contract of point.head: the flags of bytes. -/
set_option linter.unusedSimpArgs false
set_option linter.unusedVariables false
namespace Go.Proofs.YtbejkhmdmojojaaGreat
open Go.Ev Go.RowKit
def hpC (c : Nat) (r : List UInt8) : List Ch := [.c (.int .u8 (c : Int)), .y r]
def hv (c : Nat) (r : List UInt8) (i : Nat) : Nat := ((c :: r.map UInt8.toNat)[i]?).getD 0
theorem hp_flat (c : Nat) (r : List UInt8) : flat (hpC c r) = (c :: r.map UInt8.toNat).map (fun v => Value.int .u8 ((v : Nat) : Int)) := by
  unfold hpC
  rw [flat_cy]
  simp only [List.map_cons, List.map_map]
  rfl
theorem hp_get (c : Nat) (r : List UInt8) (i : Nat) (h : i < r.length + 1) : (flat (hpC c r))[i * 1]? = some (.int .u8 ((hv c r i : Nat) : Int)) := by
  rw [hp_flat, Nat.mul_one, List.getElem?_map]
  have hl : i < (c :: r.map UInt8.toNat).length := by simpa using h
  unfold hv
  rw [List.getElem?_eq_getElem hl]
  rfl
theorem and_224 : ∀ b : Fin 256, bits BinOp.and IntKind.u8 ((b.val : Nat) : Int) 224 = ((b.val / 32 * 32 : Nat) : Int) := by decide +kernel
theorem andNot_224 : ∀ b : Fin 256, bits BinOp.andNot IntKind.u8 ((b.val : Nat) : Int) 224 = ((b.val % 32 : Nat) : Int) := by decide +kernel
theorem and_b (b : UInt8) (f : Nat) (h : b.toNat / 32 * 32 = f) : bits BinOp.and IntKind.u8 ((b.toNat : Nat) : Int) 224 = ((f : Nat) : Int) := by
  rw [← h]; exact and_224 ⟨b.toNat, UInt8.toNat_lt b⟩
theorem andNot_b (b : UInt8) : bits BinOp.andNot IntKind.u8 ((b.toNat : Nat) : Int) 224 = ((b.toNat % 32 : Nat) : Int) := andNot_224 ⟨b.toNat, UInt8.toNat_lt b⟩
theorem mask_cells (b : UInt8) (r : List UInt8) : (flat [.c (.int .u8 ((b.toNat % 32 : Nat) : Int)), .y r]).take (ofL (b :: r)).size = (ofL (UInt8.ofNat (b.toNat % 32) :: r)).data.toList.map byteV ∧ (ofL (b :: r)).size = (ofL (UInt8.ofNat (b.toNat % 32) :: r)).size := by
  refine ⟨?_, rfl⟩
  rw [take_all]
  show _ = byteV (UInt8.ofNat (b.toNat % 32)) :: r.map byteV
  congr 1
  unfold byteV
  congr 1
  rw [UInt8.toNat_ofNat']
  omega
def hdI (f c : Nat) (r : List UInt8) (z : Int) : LState := { n := 70, sl := [(7, .v (.int .u8 (f : Int))), (8, .sx 42 (r.length + 1)), (58, .sx 42 (r.length + 1)), (59, .v (.int .i64 ((r.length + 1 : Nat) : Int))), (60, .v (.int .i64 z))], hp := [(42, .gr (hpC c r) 5 1)] }
def hdZ (f c : Nat) (r : List UInt8) : LState := { n := 70, sl := [(7, .v (.int .u8 (f : Int))), (8, .sx 42 (r.length + 1))], hp := [(42, .gr (hpC c r) 5 1)] }
def hdE : LState := { n := 70, sl := [(4, .v (.string (ofL []))), (5, .v (.int .u8 0)), (6, .v (.int .i64 33))], hp := [] }
theorem hd_round (f c : Nat) (r : List UInt8) (i : Nat) (hi : i < r.length + 1) (hm : r.length + 1 ≤ 1000) (hz : hv c r i = 0) : Sound Tryz.prog 0 false (loopB Tryz.f14 0) (hdI f c r (i : Int)).aa .normal (hdI f c r ((i + 1 : Nat) : Int)).aa := by
  have hs := roundK_sound (P := Tryz.prog) (X := rulesX _) (env := []) trivial (n := 0) (os := oL [(56, wT), (57, rO 9 i), (58, { ch := 0, hi := fun _ => 0, ru := 8, av := fun _ => .v (.int .u8 0) })]) (fb := 0) (rd := false) (c := (loopB Tryz.f14 0)) (k := 56) (I := hdI f c r (i : Int)) (sk := [7, 8, 58, 59, 60]) (hk := [42]) (lk := []) (ex := .normal)
    (L := hdI f c r (IntKind.i64.wrap ((i : Int) + 1))) (by kernel_rfl)
    (And.intro (show (flat (hpC c r))[i * 1]? = some (.int .u8 0) from by rw [hp_get c r i hi, hz]; rfl) (And.intro (show (i : Int) = ((i : Nat) : Int) ∧ i < r.length + 1 from ⟨rfl, hi⟩) (And.intro (show decide ((i : Int) < ((r.length + 1 : Nat) : Int)) = true from decide_eq_true (by omega)) trivial)))
  rw [show IntKind.i64.wrap ((i : Int) + 1) = ((i + 1 : Nat) : Int) by rw [wrap_i64]; omega] at hs
  exact hs
theorem hd_end (f c : Nat) (r : List UInt8) : Sound Tryz.prog 0 false (loopB Tryz.f14 0) (hdI f c r ((r.length + 1 : Nat) : Int)).aa (.exit 0) (hdZ f c r).aa :=
  roundK_sound (P := Tryz.prog) (X := rulesX _) (env := []) trivial (n := 0) (os := oL [(56, wF)]) (fb := 0) (rd := false) (c := (loopB Tryz.f14 0)) (k := 56) (I := hdI f c r ((r.length + 1 : Nat) : Int)) (sk := [7, 8]) (hk := [42]) (lk := []) (ex := .exit 0)
    (L := hdZ f c r) (by kernel_rfl) (And.intro (show decide (((r.length + 1 : Nat) : Int) < ((r.length + 1 : Nat) : Int)) = false from decide_eq_false (by omega)) trivial)
theorem hd_ret (f c : Nat) (r : List UInt8) (i v : Nat) (hi : i < r.length + 1) (hw : hv c r i = v) (hz : v ≠ 0) : Sound Tryz.prog 0 false (loopB Tryz.f14 0) (hdI f c r (i : Int)).aa .ret hdE.aa :=
  roundK_sound (P := Tryz.prog) (X := rulesX _) (env := []) trivial (n := 0) (os := oL [(56, wT), (57, rO 9 i), (58, { ch := 0, hi := fun _ => 0, ru := 8, av := fun _ => .v (.int .u8 ((v : Nat) : Int)) }), (61, wT)]) (fb := 0) (rd := false) (c := (loopB Tryz.f14 0)) (k := 56) (I := hdI f c r (i : Int)) (sk := [4, 5, 6]) (hk := []) (lk := []) (ex := .ret)
    (L := hdE) (by kernel_rfl)
    (And.intro (show (((v : Nat) : Int) != 0) = true from by simp; omega) (And.intro (show (flat (hpC c r))[i * 1]? = some (.int .u8 ((v : Nat) : Int)) from by rw [hp_get c r i hi, hw]) (And.intro (show (i : Int) = ((i : Nat) : Int) ∧ i < r.length + 1 from ⟨rfl, hi⟩) (And.intro (show decide ((i : Int) < ((r.length + 1 : Nat) : Int)) = true from decide_eq_true (by omega)) trivial))))
theorem hd_zero (f c : Nat) (r : List UInt8) (hm : r.length + 1 ≤ 1000) (hz : ∀ i, i < r.length + 1 → hv c r i = 0) : Sound Tryz.prog 0 false (.loop (loopB Tryz.f14 0)) (hdI f c r 0).aa (.exit 0) (hdZ f c r).aa := by
  refine loop_ok (m := fun y : { i : Nat // i ≤ r.length + 1 } => r.length + 1 - y.val) (fun y => hdI f c r (y.val : Int)) (by simp) (fun y => ?_) ⟨0, by omega⟩
  obtain ⟨i, hi⟩ := y
  by_cases h : i < r.length + 1
  · exact .inl ⟨⟨i + 1, h⟩, by show r.length + 1 - (i + 1) < r.length + 1 - i; omega, hd_round f c r i h hm (hz i h)⟩
  · have e : i = r.length + 1 := by omega
    subst e
    exact .inr (hd_end f c r)
theorem hd_no (f c : Nat) (r : List UInt8) (hm : r.length + 1 ≤ 1000) (j : Nat) (hj : j < r.length + 1) (hz : hv c r j ≠ 0) : Sound Tryz.prog 0 false (.loop (loopB Tryz.f14 0)) (hdI f c r 0).aa .ret hdE.aa := by
  refine loop_ok (m := fun y : { i : Nat // i ≤ j } => j - y.val) (fun y => hdI f c r (y.val : Int)) (by simp) (fun y => ?_) ⟨0, by omega⟩
  obtain ⟨i, hi⟩ := y
  by_cases h : hv c r i = 0
  · have e : i ≠ j := fun e => hz (e ▸ h)
    exact .inl ⟨⟨i + 1, by omega⟩, by show j - (i + 1) < j - i; omega, hd_round f c r i (by omega) hm h⟩
  · exact .inr (hd_ret f c r i _ (by omega) rfl h)
theorem head96_len (l : List UInt8) (h1 : l.length ≠ 96) (h2 : l.length ≠ 192) : Gives Tryz.prog 14 [.t (.v (.string (ofL l))), .t (.v (.int .i64 96))] (.tp [.v (.string (ofL [])), .v (.int .u8 0), .v (.int .i64 3)]) :=
  fn_gives_at (P := Tryz.prog) (X := rulesX _) (env := []) trivial Tryz.func14 0 (oL [(6, wT), (12, wT)]) (by kernel_rfl) ⟨_, rfl⟩
      (And.intro (show (((l.length : Nat) : Int) != 192) = true from by simp; omega) (And.intro (show (((l.length : Nat) : Int) != 96) = true from by simp; omega) trivial))
theorem zge_0 (b : UInt8) (r : List UInt8) (hL : (ofL (b :: r)).size = 96) : ((((ofL (b :: r)).size : Nat) : Int) == 96) = true := by rw [hL]; decide
theorem zge_1 (b : UInt8) (hf : b.toNat / 32 * 32 = 0) : bits BinOp.and IntKind.u8 ((b.toNat : Nat) : Int) 224 = ((0 : Nat) : Int) := and_b b 0 hf
theorem zge_2 (b : UInt8) (r : List UInt8) (hL : (ofL (b :: r)).size = 96) : (0 : Int) ≤ 0 ∧ (0 : Int) < (ofL (b :: r)).size ∧ ((ofL (b :: r))[(0 : Int).toNat]?.getD 0).toNat = b.toNat := ⟨by decide, by rw [hL]; decide, by rw [ofL_get]; rfl⟩
theorem zge_3 (b : UInt8) (r : List UInt8) (hL : (ofL (b :: r)).size = 96) : ((((ofL (b :: r)).size : Nat) : Int) != 96) = false := by rw [hL]; decide
theorem head96_10 (b : UInt8) (r : List UInt8) (hL : (ofL (b :: r)).size = 96) (hf : b.toNat / 32 * 32 = 0) : Gives Tryz.prog 14 [.t (.v (.string (ofL (b :: r)))), .t (.v (.int .i64 96))] (.tp [.v (.string (ofL [])), .v (.int .u8 0), .v (.int .i64 32)]) :=
  fn_gives_at (P := Tryz.prog) (X := rulesX _) (env := []) trivial Tryz.func14 0 (oL [(6, wF), (15, rO 1 b.toNat), (16, { ch := 1, hi := fun _ => 0 }), (24, wT)]) (by kernel_rfl) ⟨_, rfl⟩
      (And.intro (zge_0 b r hL)
      (And.intro (zge_1 b hf)
      (And.intro (zge_2 b r hL)
      (And.intro (zge_3 b r hL) trivial))))
theorem zge_4 (b : UInt8) (hf : b.toNat / 32 * 32 = 32) : bits BinOp.and IntKind.u8 ((b.toNat : Nat) : Int) 224 = ((32 : Nat) : Int) := and_b b 32 hf
theorem head96_11 (b : UInt8) (r : List UInt8) (hL : (ofL (b :: r)).size = 96) (hf : b.toNat / 32 * 32 = 32) : Gives Tryz.prog 14 [.t (.v (.string (ofL (b :: r)))), .t (.v (.int .i64 96))] (.tp [.v (.string (ofL [])), .v (.int .u8 0), .v (.int .i64 32)]) :=
  fn_gives_at (P := Tryz.prog) (X := rulesX _) (env := []) trivial Tryz.func14 0 (oL [(6, wF), (15, rO 1 b.toNat), (16, { ch := 1, hi := fun _ => 32 }), (24, wT)]) (by kernel_rfl) ⟨_, rfl⟩
      (And.intro (zge_0 b r hL)
      (And.intro (zge_4 b hf)
      (And.intro (zge_2 b r hL)
      (And.intro (zge_3 b r hL) trivial))))
theorem zge_5 (b : UInt8) (hf : b.toNat / 32 * 32 = 64) : bits BinOp.and IntKind.u8 ((b.toNat : Nat) : Int) 224 = ((64 : Nat) : Int) := and_b b 64 hf
theorem head96_12 (b : UInt8) (r : List UInt8) (hL : (ofL (b :: r)).size = 96) (hf : b.toNat / 32 * 32 = 64) : Gives Tryz.prog 14 [.t (.v (.string (ofL (b :: r)))), .t (.v (.int .i64 96))] (.tp [.v (.string (ofL [])), .v (.int .u8 0), .v (.int .i64 32)]) :=
  fn_gives_at (P := Tryz.prog) (X := rulesX _) (env := []) trivial Tryz.func14 0 (oL [(6, wF), (15, rO 1 b.toNat), (16, { ch := 1, hi := fun _ => 64 }), (24, wT)]) (by kernel_rfl) ⟨_, rfl⟩
      (And.intro (zge_0 b r hL)
      (And.intro (zge_5 b hf)
      (And.intro (zge_2 b r hL)
      (And.intro (zge_3 b r hL) trivial))))
theorem zge_6 (b : UInt8) (hf : b.toNat / 32 * 32 = 96) : bits BinOp.and IntKind.u8 ((b.toNat : Nat) : Int) 224 = ((96 : Nat) : Int) := and_b b 96 hf
theorem head96_13 (b : UInt8) (r : List UInt8) (hL : (ofL (b :: r)).size = 96) (hf : b.toNat / 32 * 32 = 96) : Gives Tryz.prog 14 [.t (.v (.string (ofL (b :: r)))), .t (.v (.int .i64 96))] (.tp [.v (.string (ofL [])), .v (.int .u8 0), .v (.int .i64 32)]) :=
  fn_gives_at (P := Tryz.prog) (X := rulesX _) (env := []) trivial Tryz.func14 0 (oL [(6, wF), (15, rO 1 b.toNat), (16, { ch := 1, hi := fun _ => 96 }), (24, wT)]) (by kernel_rfl) ⟨_, rfl⟩
      (And.intro (zge_0 b r hL)
      (And.intro (zge_6 b hf)
      (And.intro (zge_2 b r hL)
      (And.intro (zge_3 b r hL) trivial))))
theorem zge_7 (b : UInt8) (r : List UInt8) : (flat [.c (.int .u8 ((b.toNat % 32 : Nat) : Int)), .y r]).take (ofL (b :: r)).size = (ofL (UInt8.ofNat (b.toNat % 32) :: r)).data.toList.map byteV ∧ (ofL (b :: r)).size = (ofL (UInt8.ofNat (b.toNat % 32) :: r)).size := mask_cells b r
theorem zge_8 (b : UInt8) (r : List UInt8) : (0 : Int) = ((0 : Nat) : Int) ∧ 0 < (ofL (b :: r)).size := ⟨rfl, Nat.succ_pos _⟩
theorem zge_9 (b : UInt8) : bits BinOp.andNot IntKind.u8 ((b.toNat : Nat) : Int) 224 = ((b.toNat % 32 : Nat) : Int) := andNot_b b
theorem zge_10 (b : UInt8) (r : List UInt8) : flat [.c (byteV b), .y r] = (ofL (b :: r)).data.toList.map byteV := flat_cy _ _
theorem zge_11 (b : UInt8) (hf : b.toNat / 32 * 32 = 128) : bits BinOp.and IntKind.u8 ((b.toNat : Nat) : Int) 224 = ((128 : Nat) : Int) := and_b b 128 hf
theorem head96_14 (b : UInt8) (r : List UInt8) (hL : (ofL (b :: r)).size = 96) (hf : b.toNat / 32 * 32 = 128) : Gives Tryz.prog 14 [.t (.v (.string (ofL (b :: r)))), .t (.v (.int .i64 96))] (.tp [.v (.string (ofL (UInt8.ofNat (b.toNat % 32) :: r))), .v (.int .u8 128), .v (.int .i64 0)]) :=
  fn_gives_at (P := Tryz.prog) (X := rulesX _) (env := []) trivial Tryz.func14 0 (oL [(6, wF), (15, rO 1 b.toNat), (16, { ch := 1, hi := fun _ => 128 }), (24, wT), (42, { ch := 0, hi := fun _ => 0, ex := 2, cs := fun _ => [.c (byteV b), .y r] }), (45, rO 9 0), (47, { ch := 1, hi := fun _ => b.toNat % 32 }), (48, rO 9 0), (49, { ch := 0, hi := fun _ => 0, ex := 3 }), (54, { ch := 0, hi := fun _ => 0, ru := 10, av := fun _ => .v (.string (ofL (UInt8.ofNat (b.toNat % 32) :: r))) })]) (by kernel_rfl) ⟨_, rfl⟩
      (And.intro (zge_7 b r)
      (And.intro (zge_8 b r)
      (And.intro (zge_9 b)
      (And.intro (zge_8 b r)
      (And.intro (zge_10 b r)
      (And.intro (zge_0 b r hL)
      (And.intro (zge_11 b hf)
      (And.intro (zge_2 b r hL)
      (And.intro (zge_3 b r hL) trivial)))))))))
theorem zge_12 (b : UInt8) (hf : b.toNat / 32 * 32 = 160) : bits BinOp.and IntKind.u8 ((b.toNat : Nat) : Int) 224 = ((160 : Nat) : Int) := and_b b 160 hf
theorem head96_15 (b : UInt8) (r : List UInt8) (hL : (ofL (b :: r)).size = 96) (hf : b.toNat / 32 * 32 = 160) : Gives Tryz.prog 14 [.t (.v (.string (ofL (b :: r)))), .t (.v (.int .i64 96))] (.tp [.v (.string (ofL (UInt8.ofNat (b.toNat % 32) :: r))), .v (.int .u8 160), .v (.int .i64 0)]) :=
  fn_gives_at (P := Tryz.prog) (X := rulesX _) (env := []) trivial Tryz.func14 0 (oL [(6, wF), (15, rO 1 b.toNat), (16, { ch := 1, hi := fun _ => 160 }), (24, wT), (42, { ch := 0, hi := fun _ => 0, ex := 2, cs := fun _ => [.c (byteV b), .y r] }), (45, rO 9 0), (47, { ch := 1, hi := fun _ => b.toNat % 32 }), (48, rO 9 0), (49, { ch := 0, hi := fun _ => 0, ex := 3 }), (54, { ch := 0, hi := fun _ => 0, ru := 10, av := fun _ => .v (.string (ofL (UInt8.ofNat (b.toNat % 32) :: r))) })]) (by kernel_rfl) ⟨_, rfl⟩
      (And.intro (zge_7 b r)
      (And.intro (zge_8 b r)
      (And.intro (zge_9 b)
      (And.intro (zge_8 b r)
      (And.intro (zge_10 b r)
      (And.intro (zge_0 b r hL)
      (And.intro (zge_12 b hf)
      (And.intro (zge_2 b r hL)
      (And.intro (zge_3 b r hL) trivial)))))))))
theorem zge_13 (b : UInt8) (r : List UInt8) : some (hdI 192 (b.toNat % 32) r 0) = some (hdI 192 (b.toNat % 32) r 0) := rfl
theorem zge_14 (b : UInt8) (hf : b.toNat / 32 * 32 = 192) : bits BinOp.and IntKind.u8 ((b.toNat : Nat) : Int) 224 = ((192 : Nat) : Int) := and_b b 192 hf
theorem head96_16z (b : UInt8) (r : List UInt8) (hL : (ofL (b :: r)).size = 96) (hf : b.toNat / 32 * 32 = 192) (hz : ∀ i, i < r.length + 1 → hv (b.toNat % 32) r i = 0) : Gives Tryz.prog 14 [.t (.v (.string (ofL (b :: r)))), .t (.v (.int .i64 96))] (.tp [.v (.string (ofL (UInt8.ofNat (b.toNat % 32) :: r))), .v (.int .u8 192), .v (.int .i64 0)]) :=
  fn_gives_at (P := Tryz.prog) (X := rulesX _) (env := []) trivial Tryz.func14 0 (oL [(6, wF), (15, rO 1 b.toNat), (16, { ch := 1, hi := fun _ => 192 }), (24, wT), (42, { ch := 0, hi := fun _ => 0, ex := 2, cs := fun _ => [.c (byteV b), .y r] }), (45, rO 9 0), (47, { ch := 1, hi := fun _ => b.toNat % 32 }), (48, rO 9 0), (49, { ch := 0, hi := fun _ => 0, ex := 3 }), (56, lpO { I := hdI 192 (b.toNat % 32) r 0, ex := .exit 0, E := hdZ 192 (b.toNat % 32) r, fr := 57 }), (58, { ch := 0, hi := fun _ => 0, ru := 10, av := fun _ => .v (.string (ofL (UInt8.ofNat (b.toNat % 32) :: r))) })]) (by kernel_rfl) ⟨_, rfl⟩
      (And.intro (zge_7 b r)
      (And.intro (zge_13 b r)
      (And.intro (hd_zero 192 (b.toNat % 32) r (show r.length + 1 ≤ 1000 from by have h : r.length + 1 = 96 := hL; omega) hz)
      (And.intro (zge_8 b r)
      (And.intro (zge_9 b)
      (And.intro (zge_8 b r)
      (And.intro (zge_10 b r)
      (And.intro (zge_0 b r hL)
      (And.intro (zge_14 b hf)
      (And.intro (zge_2 b r hL)
      (And.intro (zge_3 b r hL) trivial)))))))))))
theorem head96_16n (b : UInt8) (r : List UInt8) (hL : (ofL (b :: r)).size = 96) (hf : b.toNat / 32 * 32 = 192) (j : Nat) (hj : j < r.length + 1) (hz : hv (b.toNat % 32) r j ≠ 0) : Gives Tryz.prog 14 [.t (.v (.string (ofL (b :: r)))), .t (.v (.int .i64 96))] (.tp [.v (.string (ofL [])), .v (.int .u8 0), .v (.int .i64 33)]) :=
  fn_gives_at (P := Tryz.prog) (X := rulesX _) (env := []) trivial Tryz.func14 0 (oL [(6, wF), (15, rO 1 b.toNat), (16, { ch := 1, hi := fun _ => 192 }), (24, wT), (42, { ch := 0, hi := fun _ => 0, ex := 2, cs := fun _ => [.c (byteV b), .y r] }), (45, rO 9 0), (47, { ch := 1, hi := fun _ => b.toNat % 32 }), (48, rO 9 0), (49, { ch := 0, hi := fun _ => 0, ex := 3 }), (56, lpO { I := hdI 192 (b.toNat % 32) r 0, ex := .ret, E := hdE, fr := 57 })]) (by kernel_rfl) ⟨_, rfl⟩
      (And.intro (zge_13 b r)
      (And.intro (hd_no 192 (b.toNat % 32) r (show r.length + 1 ≤ 1000 from by have h : r.length + 1 = 96 := hL; omega) j hj hz)
      (And.intro (zge_8 b r)
      (And.intro (zge_9 b)
      (And.intro (zge_8 b r)
      (And.intro (zge_10 b r)
      (And.intro (zge_0 b r hL)
      (And.intro (zge_14 b hf)
      (And.intro (zge_2 b r hL)
      (And.intro (zge_3 b r hL) trivial))))))))))
theorem zge_15 (b : UInt8) (hf : b.toNat / 32 * 32 = 224) : bits BinOp.and IntKind.u8 ((b.toNat : Nat) : Int) 224 = ((224 : Nat) : Int) := and_b b 224 hf
theorem head96_17 (b : UInt8) (r : List UInt8) (hL : (ofL (b :: r)).size = 96) (hf : b.toNat / 32 * 32 = 224) : Gives Tryz.prog 14 [.t (.v (.string (ofL (b :: r)))), .t (.v (.int .i64 96))] (.tp [.v (.string (ofL [])), .v (.int .u8 0), .v (.int .i64 32)]) :=
  fn_gives_at (P := Tryz.prog) (X := rulesX _) (env := []) trivial Tryz.func14 0 (oL [(6, wF), (15, rO 1 b.toNat), (16, { ch := 1, hi := fun _ => 224 }), (24, wT)]) (by kernel_rfl) ⟨_, rfl⟩
      (And.intro (zge_0 b r hL)
      (And.intro (zge_15 b hf)
      (And.intro (zge_2 b r hL)
      (And.intro (zge_3 b r hL) trivial))))
theorem zge_16 (b : UInt8) (r : List UInt8) (hL : (ofL (b :: r)).size = 192) : ((((ofL (b :: r)).size : Nat) : Int) == 96) = false := by rw [hL]; decide
theorem zge_17 (b : UInt8) (r : List UInt8) (hL : (ofL (b :: r)).size = 192) : (0 : Int) ≤ 0 ∧ (0 : Int) < (ofL (b :: r)).size ∧ ((ofL (b :: r))[(0 : Int).toNat]?.getD 0).toNat = b.toNat := ⟨by decide, by rw [hL]; decide, by rw [ofL_get]; rfl⟩
theorem zge_18 (b : UInt8) (r : List UInt8) (hL : (ofL (b :: r)).size = 192) : ((((ofL (b :: r)).size : Nat) : Int) != 192) = false := by rw [hL]; decide
theorem zge_19 (b : UInt8) (r : List UInt8) (hL : (ofL (b :: r)).size = 192) : ((((ofL (b :: r)).size : Nat) : Int) != 96) = true := by rw [hL]; decide
theorem head96_00 (b : UInt8) (r : List UInt8) (hL : (ofL (b :: r)).size = 192) (hf : b.toNat / 32 * 32 = 0) : Gives Tryz.prog 14 [.t (.v (.string (ofL (b :: r)))), .t (.v (.int .i64 96))] (.tp [.v (.string (ofL (UInt8.ofNat (b.toNat % 32) :: r))), .v (.int .u8 0), .v (.int .i64 0)]) :=
  fn_gives_at (P := Tryz.prog) (X := rulesX _) (env := []) trivial Tryz.func14 0 (oL [(6, wT), (12, wF), (15, rO 1 b.toNat), (16, { ch := 1, hi := fun _ => 0 }), (24, wF), (42, { ch := 0, hi := fun _ => 0, ex := 2, cs := fun _ => [.c (byteV b), .y r] }), (45, rO 9 0), (47, { ch := 1, hi := fun _ => b.toNat % 32 }), (48, rO 9 0), (49, { ch := 0, hi := fun _ => 0, ex := 3 }), (54, { ch := 0, hi := fun _ => 0, ru := 10, av := fun _ => .v (.string (ofL (UInt8.ofNat (b.toNat % 32) :: r))) })]) (by kernel_rfl) ⟨_, rfl⟩
      (And.intro (zge_7 b r)
      (And.intro (zge_8 b r)
      (And.intro (zge_9 b)
      (And.intro (zge_8 b r)
      (And.intro (zge_10 b r)
      (And.intro (zge_16 b r hL)
      (And.intro (zge_1 b hf)
      (And.intro (zge_17 b r hL)
      (And.intro (zge_18 b r hL)
      (And.intro (zge_19 b r hL) trivial))))))))))
theorem head96_01 (b : UInt8) (r : List UInt8) (hL : (ofL (b :: r)).size = 192) (hf : b.toNat / 32 * 32 = 32) : Gives Tryz.prog 14 [.t (.v (.string (ofL (b :: r)))), .t (.v (.int .i64 96))] (.tp [.v (.string (ofL [])), .v (.int .u8 0), .v (.int .i64 32)]) :=
  fn_gives_at (P := Tryz.prog) (X := rulesX _) (env := []) trivial Tryz.func14 0 (oL [(6, wT), (12, wF), (15, rO 1 b.toNat), (16, { ch := 1, hi := fun _ => 32 }), (24, wF)]) (by kernel_rfl) ⟨_, rfl⟩
      (And.intro (zge_16 b r hL)
      (And.intro (zge_4 b hf)
      (And.intro (zge_17 b r hL)
      (And.intro (zge_18 b r hL)
      (And.intro (zge_19 b r hL) trivial)))))
theorem head96_02z (b : UInt8) (r : List UInt8) (hL : (ofL (b :: r)).size = 192) (hf : b.toNat / 32 * 32 = 64) (hz : ∀ i, i < r.length + 1 → hv (b.toNat % 32) r i = 0) : Gives Tryz.prog 14 [.t (.v (.string (ofL (b :: r)))), .t (.v (.int .i64 96))] (.tp [.v (.string (ofL (UInt8.ofNat (b.toNat % 32) :: r))), .v (.int .u8 64), .v (.int .i64 0)]) :=
  fn_gives_at (P := Tryz.prog) (X := rulesX _) (env := []) trivial Tryz.func14 0 (oL [(6, wT), (12, wF), (15, rO 1 b.toNat), (16, { ch := 1, hi := fun _ => 64 }), (24, wF), (42, { ch := 0, hi := fun _ => 0, ex := 2, cs := fun _ => [.c (byteV b), .y r] }), (45, rO 9 0), (47, { ch := 1, hi := fun _ => b.toNat % 32 }), (48, rO 9 0), (49, { ch := 0, hi := fun _ => 0, ex := 3 }), (56, lpO { I := hdI 64 (b.toNat % 32) r 0, ex := .exit 0, E := hdZ 64 (b.toNat % 32) r, fr := 57 }), (58, { ch := 0, hi := fun _ => 0, ru := 10, av := fun _ => .v (.string (ofL (UInt8.ofNat (b.toNat % 32) :: r))) })]) (by kernel_rfl) ⟨_, rfl⟩
      (And.intro (zge_7 b r)
      (And.intro (show some (hdI 64 (b.toNat % 32) r 0) = some (hdI 64 (b.toNat % 32) r 0) from rfl)
      (And.intro (hd_zero 64 (b.toNat % 32) r (show r.length + 1 ≤ 1000 from by have h : r.length + 1 = 192 := hL; omega) hz)
      (And.intro (zge_8 b r)
      (And.intro (zge_9 b)
      (And.intro (zge_8 b r)
      (And.intro (zge_10 b r)
      (And.intro (zge_16 b r hL)
      (And.intro (zge_5 b hf)
      (And.intro (zge_17 b r hL)
      (And.intro (zge_18 b r hL)
      (And.intro (zge_19 b r hL) trivial))))))))))))
theorem head96_02n (b : UInt8) (r : List UInt8) (hL : (ofL (b :: r)).size = 192) (hf : b.toNat / 32 * 32 = 64) (j : Nat) (hj : j < r.length + 1) (hz : hv (b.toNat % 32) r j ≠ 0) : Gives Tryz.prog 14 [.t (.v (.string (ofL (b :: r)))), .t (.v (.int .i64 96))] (.tp [.v (.string (ofL [])), .v (.int .u8 0), .v (.int .i64 33)]) :=
  fn_gives_at (P := Tryz.prog) (X := rulesX _) (env := []) trivial Tryz.func14 0 (oL [(6, wT), (12, wF), (15, rO 1 b.toNat), (16, { ch := 1, hi := fun _ => 64 }), (24, wF), (42, { ch := 0, hi := fun _ => 0, ex := 2, cs := fun _ => [.c (byteV b), .y r] }), (45, rO 9 0), (47, { ch := 1, hi := fun _ => b.toNat % 32 }), (48, rO 9 0), (49, { ch := 0, hi := fun _ => 0, ex := 3 }), (56, lpO { I := hdI 64 (b.toNat % 32) r 0, ex := .ret, E := hdE, fr := 57 })]) (by kernel_rfl) ⟨_, rfl⟩
      (And.intro (show some (hdI 64 (b.toNat % 32) r 0) = some (hdI 64 (b.toNat % 32) r 0) from rfl)
      (And.intro (hd_no 64 (b.toNat % 32) r (show r.length + 1 ≤ 1000 from by have h : r.length + 1 = 192 := hL; omega) j hj hz)
      (And.intro (zge_8 b r)
      (And.intro (zge_9 b)
      (And.intro (zge_8 b r)
      (And.intro (zge_10 b r)
      (And.intro (zge_16 b r hL)
      (And.intro (zge_5 b hf)
      (And.intro (zge_17 b r hL)
      (And.intro (zge_18 b r hL)
      (And.intro (zge_19 b r hL) trivial)))))))))))
theorem head96_03 (b : UInt8) (r : List UInt8) (hL : (ofL (b :: r)).size = 192) (hf : b.toNat / 32 * 32 = 96) : Gives Tryz.prog 14 [.t (.v (.string (ofL (b :: r)))), .t (.v (.int .i64 96))] (.tp [.v (.string (ofL [])), .v (.int .u8 0), .v (.int .i64 32)]) :=
  fn_gives_at (P := Tryz.prog) (X := rulesX _) (env := []) trivial Tryz.func14 0 (oL [(6, wT), (12, wF), (15, rO 1 b.toNat), (16, { ch := 1, hi := fun _ => 96 }), (24, wF)]) (by kernel_rfl) ⟨_, rfl⟩
      (And.intro (zge_16 b r hL)
      (And.intro (zge_6 b hf)
      (And.intro (zge_17 b r hL)
      (And.intro (zge_18 b r hL)
      (And.intro (zge_19 b r hL) trivial)))))
theorem head96_04 (b : UInt8) (r : List UInt8) (hL : (ofL (b :: r)).size = 192) (hf : b.toNat / 32 * 32 = 128) : Gives Tryz.prog 14 [.t (.v (.string (ofL (b :: r)))), .t (.v (.int .i64 96))] (.tp [.v (.string (ofL [])), .v (.int .u8 0), .v (.int .i64 32)]) :=
  fn_gives_at (P := Tryz.prog) (X := rulesX _) (env := []) trivial Tryz.func14 0 (oL [(6, wT), (12, wF), (15, rO 1 b.toNat), (16, { ch := 1, hi := fun _ => 128 }), (24, wF)]) (by kernel_rfl) ⟨_, rfl⟩
      (And.intro (zge_16 b r hL)
      (And.intro (zge_11 b hf)
      (And.intro (zge_17 b r hL)
      (And.intro (zge_18 b r hL)
      (And.intro (zge_19 b r hL) trivial)))))
theorem head96_05 (b : UInt8) (r : List UInt8) (hL : (ofL (b :: r)).size = 192) (hf : b.toNat / 32 * 32 = 160) : Gives Tryz.prog 14 [.t (.v (.string (ofL (b :: r)))), .t (.v (.int .i64 96))] (.tp [.v (.string (ofL [])), .v (.int .u8 0), .v (.int .i64 32)]) :=
  fn_gives_at (P := Tryz.prog) (X := rulesX _) (env := []) trivial Tryz.func14 0 (oL [(6, wT), (12, wF), (15, rO 1 b.toNat), (16, { ch := 1, hi := fun _ => 160 }), (24, wF)]) (by kernel_rfl) ⟨_, rfl⟩
      (And.intro (zge_16 b r hL)
      (And.intro (zge_12 b hf)
      (And.intro (zge_17 b r hL)
      (And.intro (zge_18 b r hL)
      (And.intro (zge_19 b r hL) trivial)))))
theorem head96_06 (b : UInt8) (r : List UInt8) (hL : (ofL (b :: r)).size = 192) (hf : b.toNat / 32 * 32 = 192) : Gives Tryz.prog 14 [.t (.v (.string (ofL (b :: r)))), .t (.v (.int .i64 96))] (.tp [.v (.string (ofL [])), .v (.int .u8 0), .v (.int .i64 32)]) :=
  fn_gives_at (P := Tryz.prog) (X := rulesX _) (env := []) trivial Tryz.func14 0 (oL [(6, wT), (12, wF), (15, rO 1 b.toNat), (16, { ch := 1, hi := fun _ => 192 }), (24, wF)]) (by kernel_rfl) ⟨_, rfl⟩
      (And.intro (zge_16 b r hL)
      (And.intro (zge_14 b hf)
      (And.intro (zge_17 b r hL)
      (And.intro (zge_18 b r hL)
      (And.intro (zge_19 b r hL) trivial)))))
theorem head96_07 (b : UInt8) (r : List UInt8) (hL : (ofL (b :: r)).size = 192) (hf : b.toNat / 32 * 32 = 224) : Gives Tryz.prog 14 [.t (.v (.string (ofL (b :: r)))), .t (.v (.int .i64 96))] (.tp [.v (.string (ofL [])), .v (.int .u8 0), .v (.int .i64 32)]) :=
  fn_gives_at (P := Tryz.prog) (X := rulesX _) (env := []) trivial Tryz.func14 0 (oL [(6, wT), (12, wF), (15, rO 1 b.toNat), (16, { ch := 1, hi := fun _ => 224 }), (24, wF)]) (by kernel_rfl) ⟨_, rfl⟩
      (And.intro (zge_16 b r hL)
      (And.intro (zge_15 b hf)
      (And.intro (zge_17 b r hL)
      (And.intro (zge_18 b r hL)
      (And.intro (zge_19 b r hL) trivial)))))
theorem mask_nat (b : UInt8) (r : List UInt8) : (maskL (b :: r)).map UInt8.toNat = b.toNat % 32 :: r.map UInt8.toNat := by
  show (UInt8.ofNat (b.toNat % 32)).toNat :: r.map UInt8.toNat = _
  rw [UInt8.toNat_ofNat', show b.toNat % 32 % 2 ^ 8 = b.toNat % 32 by omega]
theorem allZ_iff (b : UInt8) (r : List UInt8) : allZ (maskL (b :: r)) ↔ ∀ i, i < r.length + 1 → hv (b.toNat % 32) r i = 0 := by
  unfold hv
  rw [← mask_nat]
  have hl : (maskL (b :: r)).length = r.length + 1 := rfl
  constructor
  · intro h i hi
    have hi' : i < (maskL (b :: r)).length := by omega
    rw [List.getElem?_map, List.getElem?_eq_getElem hi', h _ (List.getElem_mem hi')]
    rfl
  · intro h x hx
    obtain ⟨i, hi, rfl⟩ := List.mem_iff_getElem.1 hx
    have h1 := h i (by omega)
    rw [List.getElem?_map, List.getElem?_eq_getElem hi] at h1
    exact UInt8.toNat_inj.1 h1
theorem not_allZ (b : UInt8) (r : List UInt8) (h : ¬ allZ (maskL (b :: r))) : ∃ j, j < r.length + 1 ∧ hv (b.toNat % 32) r j ≠ 0 := by
  refine Classical.byContradiction fun hn => h ((allZ_iff b r).2 fun i hi => Classical.byContradiction fun hz => hn ⟨i, hi, hz⟩)
def altHd96 (l : List UInt8) : Alts := [(some (l.length ≠ 96 ∧ l.length ≠ 192), .tp [.v (.string (ofL [])), .v (.int .u8 0), .v (.int .i64 3)]), (some ((l.length = 96 ∧ top3 l ≠ 4 ∧ top3 l ≠ 5 ∧ top3 l ≠ 6) ∨ (l.length = 192 ∧ top3 l ≠ 0 ∧ top3 l ≠ 2)), .tp [.v (.string (ofL [])), .v (.int .u8 0), .v (.int .i64 32)]), (some (((l.length = 96 ∧ top3 l = 6) ∨ (l.length = 192 ∧ top3 l = 2)) ∧ ¬ allZ (maskL l)), .tp [.v (.string (ofL [])), .v (.int .u8 0), .v (.int .i64 33)]), (some (l.length = 96 ∧ top3 l = 4), .tp [.v (.string (ofL (maskL l))), .v (.int .u8 128), .v (.int .i64 0)]), (some (l.length = 96 ∧ top3 l = 5), .tp [.v (.string (ofL (maskL l))), .v (.int .u8 160), .v (.int .i64 0)]), (some (l.length = 192 ∧ top3 l = 0), .tp [.v (.string (ofL (maskL l))), .v (.int .u8 0), .v (.int .i64 0)]), (some ((l.length = 96 ∧ top3 l = 6) ∧ allZ (maskL l)), .tp [.v (.string (ofL (maskL l))), .v (.int .u8 192), .v (.int .i64 0)]), (some ((l.length = 192 ∧ top3 l = 2) ∧ allZ (maskL l)), .tp [.v (.string (ofL (maskL l))), .v (.int .u8 64), .v (.int .i64 0)])]
def eHd96 : Entry := entry2 14 XPar.str (XPar.int .i64) (fun l m => match decide (m = 96) with | true => altHd96 l | false => [])
theorem hd96 (l : List UInt8) : ∀ c r, (c, r) ∈ altHd96 l → c.getD True → Gives Tryz.prog 14 [.t (.v (.string (ofL l))), .t (.v (.int .i64 96))] r := by
  intro c x hm hc
  simp only [altHd96, List.mem_cons, Prod.mk.injEq, List.not_mem_nil, or_false] at hm
  rcases hm with ⟨rfl, rfl⟩ | ⟨rfl, rfl⟩ | ⟨rfl, rfl⟩ | ⟨rfl, rfl⟩ | ⟨rfl, rfl⟩ | ⟨rfl, rfl⟩ | ⟨rfl, rfl⟩ | ⟨rfl, rfl⟩
  · exact head96_len l hc.1 hc.2
  · match l, hc with
    | [], hc => simp at hc
    | b :: r, hc =>
      have hb := UInt8.toNat_lt b
      rcases hc with ⟨hL, h4, h5, h6⟩ | ⟨hL, h0, h2⟩
      · have h4 : b.toNat / 32 ≠ 4 := h4
        have h5 : b.toNat / 32 ≠ 5 := h5
        have h6 : b.toNat / 32 ≠ 6 := h6
        obtain h | h | h | h | h : b.toNat / 32 = 0 ∨ b.toNat / 32 = 1 ∨ b.toNat / 32 = 2 ∨ b.toNat / 32 = 3 ∨ b.toNat / 32 = 7 := by omega
        · exact head96_10 b r hL (by rw [h])
        · exact head96_11 b r hL (by rw [h])
        · exact head96_12 b r hL (by rw [h])
        · exact head96_13 b r hL (by rw [h])
        · exact head96_17 b r hL (by rw [h])
      · have h0 : b.toNat / 32 ≠ 0 := h0
        have h2 : b.toNat / 32 ≠ 2 := h2
        obtain h | h | h | h | h | h : b.toNat / 32 = 1 ∨ b.toNat / 32 = 3 ∨ b.toNat / 32 = 4 ∨ b.toNat / 32 = 5 ∨ b.toNat / 32 = 6 ∨ b.toNat / 32 = 7 := by omega
        · exact head96_01 b r hL (by rw [h])
        · exact head96_03 b r hL (by rw [h])
        · exact head96_04 b r hL (by rw [h])
        · exact head96_05 b r hL (by rw [h])
        · exact head96_06 b r hL (by rw [h])
        · exact head96_07 b r hL (by rw [h])
  · match l, hc with
    | [], hc => simp at hc
    | b :: r, hc =>
      obtain ⟨hc, hn⟩ := hc
      obtain ⟨j, hj, hz⟩ := not_allZ b r hn
      rcases hc with ⟨hL, h⟩ | ⟨hL, h⟩
      · have h : b.toNat / 32 = 6 := h
        exact head96_16n b r hL (by rw [h]) j hj hz
      · have h : b.toNat / 32 = 2 := h
        exact head96_02n b r hL (by rw [h]) j hj hz
  · match l, hc with
    | [], hc => simp at hc
    | b :: r, hc =>
      obtain ⟨hL, h⟩ := hc
      have h : b.toNat / 32 = 4 := h
      exact head96_14 b r hL (by rw [h])
  · match l, hc with
    | [], hc => simp at hc
    | b :: r, hc =>
      obtain ⟨hL, h⟩ := hc
      have h : b.toNat / 32 = 5 := h
      exact head96_15 b r hL (by rw [h])
  · match l, hc with
    | [], hc => simp at hc
    | b :: r, hc =>
      obtain ⟨hL, h⟩ := hc
      have h : b.toNat / 32 = 0 := h
      exact head96_00 b r hL (by rw [h])
  · match l, hc with
    | [], hc => simp at hc
    | b :: r, hc =>
      obtain ⟨hL, h⟩ := hc.1
      have h : b.toNat / 32 = 6 := h
      exact head96_16z b r hL (by rw [h]) ((allZ_iff b r).1 hc.2)
  · match l, hc with
    | [], hc => simp at hc
    | b :: r, hc =>
      obtain ⟨hL, h⟩ := hc.1
      have h : b.toNat / 32 = 2 := h
      exact head96_02z b r hL (by rw [h]) ((allZ_iff b r).1 hc.2)
theorem eHd96_ok : eHd96.OK Tryz.prog := entry2_ok (fun args w => Go.Proofs.enters_of (P := Tryz.prog) Tryz.func14 (by kernel_rfl) rfl args w) (fun l m c r hm hc => by
  by_cases e : m = 96
  · subst e
    exact hd96 l c r hm hc
  · rw [decide_eq_false e] at hm
    cases hm)
end Go.Proofs.YtbejkhmdmojojaaGreat

/- Contract of point.Get1. -/
set_option linter.unusedSimpArgs false
set_option linter.unusedVariables false
namespace Go.Proofs.YtbejkhmdmojojaaGreat
open Go.Ev Go.RowKit
theorem mask_length (l : List UInt8) : (maskL l).length = l.length := by
  match l with
  | [] => rfl
  | b :: r => rfl
end Go.Proofs.YtbejkhmdmojojaaGreat

/- Contract of chirographref10.Read where a coordinate takes 48 bytes. -/
set_option linter.unusedSimpArgs false
set_option linter.unusedVariables false
namespace Go.Proofs.YtbejkhmdmojojaaGreat
open Go.Ev Go.RowKit
theorem quo_128 : ∀ b : Fin 256, IntKind.u8.wrap (((b.val : Nat) : Int).tdiv 128) = ((b.val / 128 : Nat) : Int) := by decide +kernel
theorem quo_64 : ∀ b : Fin 256, IntKind.u8.wrap (((b.val : Nat) : Int).tdiv 64) = ((b.val / 64 : Nat) : Int) := by decide +kernel
theorem quo_32 : ∀ b : Fin 256, IntKind.u8.wrap (((b.val : Nat) : Int).tdiv 32) = ((b.val / 32 : Nat) : Int) := by decide +kernel
theorem q128 (b : UInt8) (t : Nat) (h : b.toNat / 128 = t) : IntKind.u8.wrap (((b.toNat : Nat) : Int).tdiv 128) = ((t : Nat) : Int) := by rw [← h]; exact quo_128 ⟨b.toNat, UInt8.toNat_lt b⟩
theorem q64 (b : UInt8) (t : Nat) (h : b.toNat / 64 = t) : IntKind.u8.wrap (((b.toNat : Nat) : Int).tdiv 64) = ((t : Nat) : Int) := by rw [← h]; exact quo_64 ⟨b.toNat, UInt8.toNat_lt b⟩
theorem q32 (b : UInt8) (t : Nat) (h : b.toNat / 32 = t) : IntKind.u8.wrap (((b.toNat : Nat) : Int).tdiv 32) = ((t : Nat) : Int) := by rw [← h]; exact quo_32 ⟨b.toNat, UInt8.toNat_lt b⟩
theorem rem_32 (b : UInt8) : ((b.toNat : Nat) : Int).tmod 32 = ((b.toNat % 32 : Nat) : Int) := by
  rw [Int.tmod_eq_emod_of_nonneg (by omega)]; omega
theorem mask_flat (b : UInt8) (r : List UInt8) : flat [.c (.int .u8 ((b.toNat % 32 : Nat) : Int)), .y r] = (maskL (b :: r)).map byteV := by
  rw [flat_cy]
  show _ = byteV (UInt8.ofNat (b.toNat % 32)) :: r.map byteV
  congr 1
  unfold byteV
  congr 1
  rw [UInt8.toNat_ofNat']
  omega
theorem part_cells (b : UInt8) (r : List UInt8) (off n : Nat) (X : List UInt8) (hX : X = ((maskL (b :: r)).drop off).take n) (hl : off + n ≤ r.length + 1) :
    ((flat [.c (.int .u8 ((b.toNat % 32 : Nat) : Int)), .y r]).drop off).take n = (ofL X).data.toList.map byteV ∧ n = (ofL X).size := by
  subst hX
  refine ⟨?_, ?_⟩
  · rw [mask_flat, ← List.map_drop, ← List.map_take]; rfl
  · show n = (((maskL (b :: r)).drop off).take n).length
    have : (maskL (b :: r)).length = r.length + 1 := rfl
    rw [List.length_take, List.length_drop, this]; omega
theorem mv_head {j n : Nat} {v0 v1 v2 x : Value} : ∀ (ρ ρ' : Names) k u v, ρ' j = some u → ρ k = some u → Rep ρ' (.tp [.ag [.c v0, .c v1, .c v2, .sx j n], .v x]) v → Rep ρ (.tp [.ag [.c v0, .c v1, .c v2, .sx k n], .v x]) v := by
  intro ρ ρ' k u v h1 h2 h
  have e1 : ρ'.at j 0 = ρ.at k 0 := by simp only [Names.at, h1, h2]
  have e2 : ρ'.room j = ρ.room k := by simp only [Names.room, h1, h2]
  simp only [Rep, Reps] at h ⊢
  obtain ⟨xs, ⟨y, s, rfl, ⟨_, rfl⟩, h3⟩, rfl⟩ := h
  refine ⟨_, ⟨_, _, rfl, ⟨⟨trivial, trivial, trivial, ⟨u, h2⟩, trivial⟩, ?_⟩, h3⟩, rfl⟩
  simp only [flatR, Ch.cells, e1, e2]
def rdI (s h : Bool) (c : Nat) (r : List UInt8) (z : Int) : LState := { n := 109, sl := [(4, .p 0 0), (6, .p 28 0), (71, .sx 51 (r.length + 1)), (72, .v (.int .i64 ((r.length + 1 : Nat) : Int))), (73, .v (.int .i64 z))], hp := [(0, .own [.c (.bool false), .c (.bool false), .c (.bool false), .c (.slice none 0 0)] 34), (28, .own [.c (.bool s), .c (.bool true), .c (.bool h), .c (.slice none 0 0)] 34), (51, .gr (hpC c r) 5 1)] }
def rdZ (s h : Bool) : LState := { n := 109, sl := [(4, .p 0 0), (6, .p 28 0)], hp := [(0, .own [.c (.bool false), .c (.bool false), .c (.bool false), .c (.slice none 0 0)] 34), (28, .own [.c (.bool s), .c (.bool true), .c (.bool h), .c (.slice none 0 0)] 34)] }
def rdE : LState := { n := 109, sl := [(4, .p 0 0), (5, .v (.int .i64 33))], hp := [(0, .own [.c (.bool false), .c (.bool false), .c (.bool false), .c (.slice none 0 0)] 34)] }
theorem rd_round (s h : Bool) (c : Nat) (r : List UInt8) (i : Nat) (hi : i < r.length + 1) (hm : r.length + 1 ≤ 1000) (hz : hv c r i = 0) : Sound Tryz.prog 0 false (loopB Tryz.f5 0) (rdI s h c r (i : Int)).aa .normal (rdI s h c r ((i + 1 : Nat) : Int)).aa := by
  have hs := roundK_sound (P := Tryz.prog) (X := rulesY _) (env := []) trivial (n := 0) (os := oL [(65, wT), (66, rO 9 i), (67, { ch := 0, hi := fun _ => 0, ru := 8, av := fun _ => .v (.int .u8 0) })]) (fb := 0) (rd := false) (c := (loopB Tryz.f5 0)) (k := 65) (I := rdI s h c r (i : Int)) (sk := [4, 6, 71, 72, 73]) (hk := [0, 28, 51]) (lk := []) (ex := .normal)
    (L := rdI s h c r (IntKind.i64.wrap ((i : Int) + 1))) (by kernel_rfl)
    (And.intro (show (flat (hpC c r))[i * 1]? = some (.int .u8 0) from by rw [hp_get c r i hi, hz]; rfl) (And.intro (show (i : Int) = ((i : Nat) : Int) ∧ i < r.length + 1 from ⟨rfl, hi⟩) (And.intro (show decide ((i : Int) < ((r.length + 1 : Nat) : Int)) = true from decide_eq_true (by omega)) trivial)))
  rw [show IntKind.i64.wrap ((i : Int) + 1) = ((i + 1 : Nat) : Int) by rw [wrap_i64]; omega] at hs
  exact hs
theorem rd_end (s h : Bool) (c : Nat) (r : List UInt8) : Sound Tryz.prog 0 false (loopB Tryz.f5 0) (rdI s h c r ((r.length + 1 : Nat) : Int)).aa (.exit 0) (rdZ s h).aa :=
  roundK_sound (P := Tryz.prog) (X := rulesY _) (env := []) trivial (n := 0) (os := oL [(65, wF)]) (fb := 0) (rd := false) (c := (loopB Tryz.f5 0)) (k := 65) (I := rdI s h c r ((r.length + 1 : Nat) : Int)) (sk := [4, 6]) (hk := [0, 28]) (lk := []) (ex := .exit 0)
    (L := rdZ s h) (by kernel_rfl) (And.intro (show decide (((r.length + 1 : Nat) : Int) < ((r.length + 1 : Nat) : Int)) = false from decide_eq_false (by omega)) trivial)
theorem rd_ret (s h : Bool) (c : Nat) (r : List UInt8) (i v : Nat) (hi : i < r.length + 1) (hw : hv c r i = v) (hz : v ≠ 0) : Sound Tryz.prog 0 false (loopB Tryz.f5 0) (rdI s h c r (i : Int)).aa .ret rdE.aa :=
  roundK_sound (P := Tryz.prog) (X := rulesY _) (env := []) trivial (n := 0) (os := oL [(65, wT), (66, rO 9 i), (67, { ch := 0, hi := fun _ => 0, ru := 8, av := fun _ => .v (.int .u8 ((v : Nat) : Int)) }), (70, wT)]) (fb := 0) (rd := false) (c := (loopB Tryz.f5 0)) (k := 65) (I := rdI s h c r (i : Int)) (sk := [4, 5]) (hk := [0]) (lk := []) (ex := .ret)
    (L := rdE) (by kernel_rfl)
    (And.intro (show (((v : Nat) : Int) != 0) = true from by simp; omega) (And.intro (show (flat (hpC c r))[i * 1]? = some (.int .u8 ((v : Nat) : Int)) from by rw [hp_get c r i hi, hw]) (And.intro (show (i : Int) = ((i : Nat) : Int) ∧ i < r.length + 1 from ⟨rfl, hi⟩) (And.intro (show decide ((i : Int) < ((r.length + 1 : Nat) : Int)) = true from decide_eq_true (by omega)) trivial))))
theorem rd_zero (s h : Bool) (c : Nat) (r : List UInt8) (hm : r.length + 1 ≤ 1000) (hz : ∀ i, i < r.length + 1 → hv c r i = 0) : Sound Tryz.prog 0 false (.loop (loopB Tryz.f5 0)) (rdI s h c r 0).aa (.exit 0) (rdZ s h).aa := by
  refine loop_ok (m := fun y : { i : Nat // i ≤ r.length + 1 } => r.length + 1 - y.val) (fun y => rdI s h c r (y.val : Int)) (by simp) (fun y => ?_) ⟨0, by omega⟩
  obtain ⟨i, hi⟩ := y
  by_cases e : i < r.length + 1
  · exact .inl ⟨⟨i + 1, e⟩, by show r.length + 1 - (i + 1) < r.length + 1 - i; omega, rd_round s h c r i e hm (hz i e)⟩
  · have e : i = r.length + 1 := by omega
    subst e
    exact .inr (rd_end s h c r)
theorem rd_no (s h : Bool) (c : Nat) (r : List UInt8) (hm : r.length + 1 ≤ 1000) (j : Nat) (hj : j < r.length + 1) (hz : hv c r j ≠ 0) : Sound Tryz.prog 0 false (.loop (loopB Tryz.f5 0)) (rdI s h c r 0).aa .ret rdE.aa := by
  refine loop_ok (m := fun y : { i : Nat // i ≤ j } => j - y.val) (fun y => rdI s h c r (y.val : Int)) (by simp) (fun y => ?_) ⟨0, by omega⟩
  obtain ⟨i, hi⟩ := y
  by_cases e : hv c r i = 0
  · have e' : i ≠ j := fun e' => hz (e' ▸ e)
    exact .inl ⟨⟨i + 1, by omega⟩, by show j - (i + 1) < j - i; omega, rd_round s h c r i (by omega) hm e⟩
  · exact .inr (rd_ret s h c r i _ (by omega) rfl e)
end Go.Proofs.YtbejkhmdmojojaaGreat
