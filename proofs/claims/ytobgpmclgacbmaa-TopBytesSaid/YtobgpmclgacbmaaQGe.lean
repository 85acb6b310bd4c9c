/- Pruned: Ge. -/
import Derived.Test.YtobgpmclgacbmaaQGc
/- Contract of point.head: the flags of bytes. -/
set_option linter.unusedSimpArgs false
set_option linter.unusedVariables false
namespace Go.Proofs.Ytobgpmclgacbmaa
open Go.Ev Go.RowKit
def hpC (c : Nat) (r : List UInt8) : List Ch := [.c (.int .u8 (c : Int)), .y r]
def hv (c : Nat) (r : List UInt8) (i : Nat) : Nat := ((c :: r.map UInt8.toNat)[i]?).getD 0
theorem hp_flat (c : Nat) (r : List UInt8) : flat (hpC c r) = (c :: r.map UInt8.toNat).map (fun v => Value.int .u8 ((v : Nat) : Int)) := by
  unfold hpC
  rw [flat_cy]
  simp only [List.map_cons, List.map_map]
  rfl
theorem hp_get (c : Nat) (r : List UInt8) (i : Nat) (h : i < r.length + 1) : (flat (hpC c r))[i * 1]? = some (.int .u8 ((hv c r i : Nat) : Int)) := by
  rw [hp_flat, Nat.mul_one, List.getElem?_map]
  have hl : i < (c :: r.map UInt8.toNat).length := by simpa using h
  unfold hv
  rw [List.getElem?_eq_getElem hl]
  rfl
theorem and_224 : ∀ b : Fin 256, bits BinOp.and IntKind.u8 ((b.val : Nat) : Int) 224 = ((b.val / 32 * 32 : Nat) : Int) := by decide +kernel
theorem andNot_224 : ∀ b : Fin 256, bits BinOp.andNot IntKind.u8 ((b.val : Nat) : Int) 224 = ((b.val % 32 : Nat) : Int) := by decide +kernel
theorem and_b (b : UInt8) (f : Nat) (h : b.toNat / 32 * 32 = f) : bits BinOp.and IntKind.u8 ((b.toNat : Nat) : Int) 224 = ((f : Nat) : Int) := by
  rw [← h]; exact and_224 ⟨b.toNat, UInt8.toNat_lt b⟩
theorem andNot_b (b : UInt8) : bits BinOp.andNot IntKind.u8 ((b.toNat : Nat) : Int) 224 = ((b.toNat % 32 : Nat) : Int) := andNot_224 ⟨b.toNat, UInt8.toNat_lt b⟩
theorem mask_cells (b : UInt8) (r : List UInt8) : (flat [.c (.int .u8 ((b.toNat % 32 : Nat) : Int)), .y r]).take (ofL (b :: r)).size = (ofL (UInt8.ofNat (b.toNat % 32) :: r)).data.toList.map byteV ∧ (ofL (b :: r)).size = (ofL (UInt8.ofNat (b.toNat % 32) :: r)).size := by
  refine ⟨?_, rfl⟩
  rw [take_all]
  show _ = byteV (UInt8.ofNat (b.toNat % 32)) :: r.map byteV
  congr 1
  unfold byteV
  congr 1
  rw [UInt8.toNat_ofNat']
  omega
def hdI (f c : Nat) (r : List UInt8) (z : Int) : LState := { n := 70, sl := [(7, .v (.int .u8 (f : Int))), (8, .sx 42 (r.length + 1)), (58, .sx 42 (r.length + 1)), (59, .v (.int .i64 ((r.length + 1 : Nat) : Int))), (60, .v (.int .i64 z))], hp := [(42, .gr (hpC c r) 5 1)] }
def hdZ (f c : Nat) (r : List UInt8) : LState := { n := 70, sl := [(7, .v (.int .u8 (f : Int))), (8, .sx 42 (r.length + 1))], hp := [(42, .gr (hpC c r) 5 1)] }
def hdE : LState := { n := 70, sl := [(4, .v (.string (ofL []))), (5, .v (.int .u8 0)), (6, .v (.int .i64 33))], hp := [] }
theorem hd_round (f c : Nat) (r : List UInt8) (i : Nat) (hi : i < r.length + 1) (hm : r.length + 1 ≤ 1000) (hz : hv c r i = 0) : Sound Try.prog 0 false (loopB Try.f19 0) (hdI f c r (i : Int)).aa .normal (hdI f c r ((i + 1 : Nat) : Int)).aa := by
  have hs := roundK_sound (P := Try.prog) (X := rulesX _) (env := []) trivial (n := 0) (os := oL [(56, wT), (57, rO 9 i), (58, { ch := 0, hi := fun _ => 0, ru := 8, av := fun _ => .v (.int .u8 0) })]) (fb := 0) (rd := false) (c := (loopB Try.f19 0)) (k := 56) (I := hdI f c r (i : Int)) (sk := [7, 8, 58, 59, 60]) (hk := [42]) (lk := []) (ex := .normal)
    (L := hdI f c r (IntKind.i64.wrap ((i : Int) + 1))) (by kernel_rfl)
    (And.intro (show (flat (hpC c r))[i * 1]? = some (.int .u8 0) from by rw [hp_get c r i hi, hz]; rfl) (And.intro (show (i : Int) = ((i : Nat) : Int) ∧ i < r.length + 1 from ⟨rfl, hi⟩) (And.intro (show decide ((i : Int) < ((r.length + 1 : Nat) : Int)) = true from decide_eq_true (by omega)) trivial)))
  rw [show IntKind.i64.wrap ((i : Int) + 1) = ((i + 1 : Nat) : Int) by rw [wrap_i64]; omega] at hs
  exact hs
theorem hd_end (f c : Nat) (r : List UInt8) : Sound Try.prog 0 false (loopB Try.f19 0) (hdI f c r ((r.length + 1 : Nat) : Int)).aa (.exit 0) (hdZ f c r).aa :=
  roundK_sound (P := Try.prog) (X := rulesX _) (env := []) trivial (n := 0) (os := oL [(56, wF)]) (fb := 0) (rd := false) (c := (loopB Try.f19 0)) (k := 56) (I := hdI f c r ((r.length + 1 : Nat) : Int)) (sk := [7, 8]) (hk := [42]) (lk := []) (ex := .exit 0)
    (L := hdZ f c r) (by kernel_rfl) (And.intro (show decide (((r.length + 1 : Nat) : Int) < ((r.length + 1 : Nat) : Int)) = false from decide_eq_false (by omega)) trivial)
theorem hd_ret (f c : Nat) (r : List UInt8) (i v : Nat) (hi : i < r.length + 1) (hw : hv c r i = v) (hz : v ≠ 0) : Sound Try.prog 0 false (loopB Try.f19 0) (hdI f c r (i : Int)).aa .ret hdE.aa :=
  roundK_sound (P := Try.prog) (X := rulesX _) (env := []) trivial (n := 0) (os := oL [(56, wT), (57, rO 9 i), (58, { ch := 0, hi := fun _ => 0, ru := 8, av := fun _ => .v (.int .u8 ((v : Nat) : Int)) }), (61, wT)]) (fb := 0) (rd := false) (c := (loopB Try.f19 0)) (k := 56) (I := hdI f c r (i : Int)) (sk := [4, 5, 6]) (hk := []) (lk := []) (ex := .ret)
    (L := hdE) (by kernel_rfl)
    (And.intro (show (((v : Nat) : Int) != 0) = true from by simp; omega) (And.intro (show (flat (hpC c r))[i * 1]? = some (.int .u8 ((v : Nat) : Int)) from by rw [hp_get c r i hi, hw]) (And.intro (show (i : Int) = ((i : Nat) : Int) ∧ i < r.length + 1 from ⟨rfl, hi⟩) (And.intro (show decide ((i : Int) < ((r.length + 1 : Nat) : Int)) = true from decide_eq_true (by omega)) trivial))))
theorem hd_zero (f c : Nat) (r : List UInt8) (hm : r.length + 1 ≤ 1000) (hz : ∀ i, i < r.length + 1 → hv c r i = 0) : Sound Try.prog 0 false (.loop (loopB Try.f19 0)) (hdI f c r 0).aa (.exit 0) (hdZ f c r).aa := by
  refine loop_ok (m := fun y : { i : Nat // i ≤ r.length + 1 } => r.length + 1 - y.val) (fun y => hdI f c r (y.val : Int)) (by simp) (fun y => ?_) ⟨0, by omega⟩
  obtain ⟨i, hi⟩ := y
  by_cases h : i < r.length + 1
  · exact .inl ⟨⟨i + 1, h⟩, by show r.length + 1 - (i + 1) < r.length + 1 - i; omega, hd_round f c r i h hm (hz i h)⟩
  · have e : i = r.length + 1 := by omega
    subst e
    exact .inr (hd_end f c r)
theorem hd_no (f c : Nat) (r : List UInt8) (hm : r.length + 1 ≤ 1000) (j : Nat) (hj : j < r.length + 1) (hz : hv c r j ≠ 0) : Sound Try.prog 0 false (.loop (loopB Try.f19 0)) (hdI f c r 0).aa .ret hdE.aa := by
  refine loop_ok (m := fun y : { i : Nat // i ≤ j } => j - y.val) (fun y => hdI f c r (y.val : Int)) (by simp) (fun y => ?_) ⟨0, by omega⟩
  obtain ⟨i, hi⟩ := y
  by_cases h : hv c r i = 0
  · have e : i ≠ j := fun e => hz (e ▸ h)
    exact .inl ⟨⟨i + 1, by omega⟩, by show j - (i + 1) < j - i; omega, hd_round f c r i (by omega) hm h⟩
  · exact .inr (hd_ret f c r i _ (by omega) rfl h)
theorem head48_len (l : List UInt8) (h1 : l.length ≠ 48) (h2 : l.length ≠ 96) : Gives Try.prog 19 [.t (.v (.string (ofL l))), .t (.v (.int .i64 48))] (.tp [.v (.string (ofL [])), .v (.int .u8 0), .v (.int .i64 3)]) :=
  fn_gives_at (P := Try.prog) (X := rulesX _) (env := []) trivial Try.func19 0 (oL [(6, wT), (12, wT)]) (by kernel_rfl) ⟨_, rfl⟩
      (And.intro (show (((l.length : Nat) : Int) != 96) = true from by simp; omega) (And.intro (show (((l.length : Nat) : Int) != 48) = true from by simp; omega) trivial))
theorem head48_10 (b : UInt8) (r : List UInt8) (hL : (ofL (b :: r)).size = 48) (hf : b.toNat / 32 * 32 = 0) : Gives Try.prog 19 [.t (.v (.string (ofL (b :: r)))), .t (.v (.int .i64 48))] (.tp [.v (.string (ofL [])), .v (.int .u8 0), .v (.int .i64 32)]) :=
  fn_gives_at (P := Try.prog) (X := rulesX _) (env := []) trivial Try.func19 0 (oL [(6, wF), (15, rO 1 b.toNat), (16, { ch := 1, hi := fun _ => 0 }), (24, wT)]) (by kernel_rfl) ⟨_, rfl⟩
      (And.intro (show ((((ofL (b :: r)).size : Nat) : Int) == 48) = true from by rw [hL]; decide)
      (And.intro (show bits BinOp.and IntKind.u8 ((b.toNat : Nat) : Int) 224 = ((0 : Nat) : Int) from and_b b 0 hf)
      (And.intro (show (0 : Int) ≤ 0 ∧ (0 : Int) < (ofL (b :: r)).size ∧ ((ofL (b :: r))[(0 : Int).toNat]?.getD 0).toNat = b.toNat from ⟨by decide, by rw [hL]; decide, by rw [ofL_get]; rfl⟩)
      (And.intro (show ((((ofL (b :: r)).size : Nat) : Int) != 48) = false from by rw [hL]; decide) trivial))))
theorem head48_11 (b : UInt8) (r : List UInt8) (hL : (ofL (b :: r)).size = 48) (hf : b.toNat / 32 * 32 = 32) : Gives Try.prog 19 [.t (.v (.string (ofL (b :: r)))), .t (.v (.int .i64 48))] (.tp [.v (.string (ofL [])), .v (.int .u8 0), .v (.int .i64 32)]) :=
  fn_gives_at (P := Try.prog) (X := rulesX _) (env := []) trivial Try.func19 0 (oL [(6, wF), (15, rO 1 b.toNat), (16, { ch := 1, hi := fun _ => 32 }), (24, wT)]) (by kernel_rfl) ⟨_, rfl⟩
      (And.intro (show ((((ofL (b :: r)).size : Nat) : Int) == 48) = true from by rw [hL]; decide)
      (And.intro (show bits BinOp.and IntKind.u8 ((b.toNat : Nat) : Int) 224 = ((32 : Nat) : Int) from and_b b 32 hf)
      (And.intro (show (0 : Int) ≤ 0 ∧ (0 : Int) < (ofL (b :: r)).size ∧ ((ofL (b :: r))[(0 : Int).toNat]?.getD 0).toNat = b.toNat from ⟨by decide, by rw [hL]; decide, by rw [ofL_get]; rfl⟩)
      (And.intro (show ((((ofL (b :: r)).size : Nat) : Int) != 48) = false from by rw [hL]; decide) trivial))))
theorem head48_12 (b : UInt8) (r : List UInt8) (hL : (ofL (b :: r)).size = 48) (hf : b.toNat / 32 * 32 = 64) : Gives Try.prog 19 [.t (.v (.string (ofL (b :: r)))), .t (.v (.int .i64 48))] (.tp [.v (.string (ofL [])), .v (.int .u8 0), .v (.int .i64 32)]) :=
  fn_gives_at (P := Try.prog) (X := rulesX _) (env := []) trivial Try.func19 0 (oL [(6, wF), (15, rO 1 b.toNat), (16, { ch := 1, hi := fun _ => 64 }), (24, wT)]) (by kernel_rfl) ⟨_, rfl⟩
      (And.intro (show ((((ofL (b :: r)).size : Nat) : Int) == 48) = true from by rw [hL]; decide)
      (And.intro (show bits BinOp.and IntKind.u8 ((b.toNat : Nat) : Int) 224 = ((64 : Nat) : Int) from and_b b 64 hf)
      (And.intro (show (0 : Int) ≤ 0 ∧ (0 : Int) < (ofL (b :: r)).size ∧ ((ofL (b :: r))[(0 : Int).toNat]?.getD 0).toNat = b.toNat from ⟨by decide, by rw [hL]; decide, by rw [ofL_get]; rfl⟩)
      (And.intro (show ((((ofL (b :: r)).size : Nat) : Int) != 48) = false from by rw [hL]; decide) trivial))))
theorem head48_13 (b : UInt8) (r : List UInt8) (hL : (ofL (b :: r)).size = 48) (hf : b.toNat / 32 * 32 = 96) : Gives Try.prog 19 [.t (.v (.string (ofL (b :: r)))), .t (.v (.int .i64 48))] (.tp [.v (.string (ofL [])), .v (.int .u8 0), .v (.int .i64 32)]) :=
  fn_gives_at (P := Try.prog) (X := rulesX _) (env := []) trivial Try.func19 0 (oL [(6, wF), (15, rO 1 b.toNat), (16, { ch := 1, hi := fun _ => 96 }), (24, wT)]) (by kernel_rfl) ⟨_, rfl⟩
      (And.intro (show ((((ofL (b :: r)).size : Nat) : Int) == 48) = true from by rw [hL]; decide)
      (And.intro (show bits BinOp.and IntKind.u8 ((b.toNat : Nat) : Int) 224 = ((96 : Nat) : Int) from and_b b 96 hf)
      (And.intro (show (0 : Int) ≤ 0 ∧ (0 : Int) < (ofL (b :: r)).size ∧ ((ofL (b :: r))[(0 : Int).toNat]?.getD 0).toNat = b.toNat from ⟨by decide, by rw [hL]; decide, by rw [ofL_get]; rfl⟩)
      (And.intro (show ((((ofL (b :: r)).size : Nat) : Int) != 48) = false from by rw [hL]; decide) trivial))))
theorem head48_14 (b : UInt8) (r : List UInt8) (hL : (ofL (b :: r)).size = 48) (hf : b.toNat / 32 * 32 = 128) : Gives Try.prog 19 [.t (.v (.string (ofL (b :: r)))), .t (.v (.int .i64 48))] (.tp [.v (.string (ofL (UInt8.ofNat (b.toNat % 32) :: r))), .v (.int .u8 128), .v (.int .i64 0)]) :=
  fn_gives_at (P := Try.prog) (X := rulesX _) (env := []) trivial Try.func19 0 (oL [(6, wF), (15, rO 1 b.toNat), (16, { ch := 1, hi := fun _ => 128 }), (24, wT), (42, { ch := 0, hi := fun _ => 0, ex := 2, cs := fun _ => [.c (byteV b), .y r] }), (45, rO 9 0), (47, { ch := 1, hi := fun _ => b.toNat % 32 }), (48, rO 9 0), (49, { ch := 0, hi := fun _ => 0, ex := 3 }), (54, { ch := 0, hi := fun _ => 0, ru := 10, av := fun _ => .v (.string (ofL (UInt8.ofNat (b.toNat % 32) :: r))) })]) (by kernel_rfl) ⟨_, rfl⟩
      (And.intro (show (flat [.c (.int .u8 ((b.toNat % 32 : Nat) : Int)), .y r]).take (ofL (b :: r)).size = (ofL (UInt8.ofNat (b.toNat % 32) :: r)).data.toList.map byteV ∧ (ofL (b :: r)).size = (ofL (UInt8.ofNat (b.toNat % 32) :: r)).size from mask_cells b r)
      (And.intro (show (0 : Int) = ((0 : Nat) : Int) ∧ 0 < (ofL (b :: r)).size from ⟨rfl, Nat.succ_pos _⟩)
      (And.intro (show bits BinOp.andNot IntKind.u8 ((b.toNat : Nat) : Int) 224 = ((b.toNat % 32 : Nat) : Int) from andNot_b b)
      (And.intro (show (0 : Int) = ((0 : Nat) : Int) ∧ 0 < (ofL (b :: r)).size from ⟨rfl, Nat.succ_pos _⟩)
      (And.intro (show flat [.c (byteV b), .y r] = (ofL (b :: r)).data.toList.map byteV from flat_cy _ _)
      (And.intro (show ((((ofL (b :: r)).size : Nat) : Int) == 48) = true from by rw [hL]; decide)
      (And.intro (show bits BinOp.and IntKind.u8 ((b.toNat : Nat) : Int) 224 = ((128 : Nat) : Int) from and_b b 128 hf)
      (And.intro (show (0 : Int) ≤ 0 ∧ (0 : Int) < (ofL (b :: r)).size ∧ ((ofL (b :: r))[(0 : Int).toNat]?.getD 0).toNat = b.toNat from ⟨by decide, by rw [hL]; decide, by rw [ofL_get]; rfl⟩)
      (And.intro (show ((((ofL (b :: r)).size : Nat) : Int) != 48) = false from by rw [hL]; decide) trivial)))))))))
theorem head48_15 (b : UInt8) (r : List UInt8) (hL : (ofL (b :: r)).size = 48) (hf : b.toNat / 32 * 32 = 160) : Gives Try.prog 19 [.t (.v (.string (ofL (b :: r)))), .t (.v (.int .i64 48))] (.tp [.v (.string (ofL (UInt8.ofNat (b.toNat % 32) :: r))), .v (.int .u8 160), .v (.int .i64 0)]) :=
  fn_gives_at (P := Try.prog) (X := rulesX _) (env := []) trivial Try.func19 0 (oL [(6, wF), (15, rO 1 b.toNat), (16, { ch := 1, hi := fun _ => 160 }), (24, wT), (42, { ch := 0, hi := fun _ => 0, ex := 2, cs := fun _ => [.c (byteV b), .y r] }), (45, rO 9 0), (47, { ch := 1, hi := fun _ => b.toNat % 32 }), (48, rO 9 0), (49, { ch := 0, hi := fun _ => 0, ex := 3 }), (54, { ch := 0, hi := fun _ => 0, ru := 10, av := fun _ => .v (.string (ofL (UInt8.ofNat (b.toNat % 32) :: r))) })]) (by kernel_rfl) ⟨_, rfl⟩
      (And.intro (show (flat [.c (.int .u8 ((b.toNat % 32 : Nat) : Int)), .y r]).take (ofL (b :: r)).size = (ofL (UInt8.ofNat (b.toNat % 32) :: r)).data.toList.map byteV ∧ (ofL (b :: r)).size = (ofL (UInt8.ofNat (b.toNat % 32) :: r)).size from mask_cells b r)
      (And.intro (show (0 : Int) = ((0 : Nat) : Int) ∧ 0 < (ofL (b :: r)).size from ⟨rfl, Nat.succ_pos _⟩)
      (And.intro (show bits BinOp.andNot IntKind.u8 ((b.toNat : Nat) : Int) 224 = ((b.toNat % 32 : Nat) : Int) from andNot_b b)
      (And.intro (show (0 : Int) = ((0 : Nat) : Int) ∧ 0 < (ofL (b :: r)).size from ⟨rfl, Nat.succ_pos _⟩)
      (And.intro (show flat [.c (byteV b), .y r] = (ofL (b :: r)).data.toList.map byteV from flat_cy _ _)
      (And.intro (show ((((ofL (b :: r)).size : Nat) : Int) == 48) = true from by rw [hL]; decide)
      (And.intro (show bits BinOp.and IntKind.u8 ((b.toNat : Nat) : Int) 224 = ((160 : Nat) : Int) from and_b b 160 hf)
      (And.intro (show (0 : Int) ≤ 0 ∧ (0 : Int) < (ofL (b :: r)).size ∧ ((ofL (b :: r))[(0 : Int).toNat]?.getD 0).toNat = b.toNat from ⟨by decide, by rw [hL]; decide, by rw [ofL_get]; rfl⟩)
      (And.intro (show ((((ofL (b :: r)).size : Nat) : Int) != 48) = false from by rw [hL]; decide) trivial)))))))))
theorem head48_16z (b : UInt8) (r : List UInt8) (hL : (ofL (b :: r)).size = 48) (hf : b.toNat / 32 * 32 = 192) (hz : ∀ i, i < r.length + 1 → hv (b.toNat % 32) r i = 0) : Gives Try.prog 19 [.t (.v (.string (ofL (b :: r)))), .t (.v (.int .i64 48))] (.tp [.v (.string (ofL (UInt8.ofNat (b.toNat % 32) :: r))), .v (.int .u8 192), .v (.int .i64 0)]) :=
  fn_gives_at (P := Try.prog) (X := rulesX _) (env := []) trivial Try.func19 0 (oL [(6, wF), (15, rO 1 b.toNat), (16, { ch := 1, hi := fun _ => 192 }), (24, wT), (42, { ch := 0, hi := fun _ => 0, ex := 2, cs := fun _ => [.c (byteV b), .y r] }), (45, rO 9 0), (47, { ch := 1, hi := fun _ => b.toNat % 32 }), (48, rO 9 0), (49, { ch := 0, hi := fun _ => 0, ex := 3 }), (56, lpO { I := hdI 192 (b.toNat % 32) r 0, ex := .exit 0, E := hdZ 192 (b.toNat % 32) r, fr := 57 }), (58, { ch := 0, hi := fun _ => 0, ru := 10, av := fun _ => .v (.string (ofL (UInt8.ofNat (b.toNat % 32) :: r))) })]) (by kernel_rfl) ⟨_, rfl⟩
      (And.intro (show (flat [.c (.int .u8 ((b.toNat % 32 : Nat) : Int)), .y r]).take (ofL (b :: r)).size = (ofL (UInt8.ofNat (b.toNat % 32) :: r)).data.toList.map byteV ∧ (ofL (b :: r)).size = (ofL (UInt8.ofNat (b.toNat % 32) :: r)).size from mask_cells b r)
      (And.intro (show some (hdI 192 (b.toNat % 32) r 0) = some (hdI 192 (b.toNat % 32) r 0) from rfl)
      (And.intro (hd_zero 192 (b.toNat % 32) r (show r.length + 1 ≤ 1000 from by have h : r.length + 1 = 48 := hL; omega) hz)
      (And.intro (show (0 : Int) = ((0 : Nat) : Int) ∧ 0 < (ofL (b :: r)).size from ⟨rfl, Nat.succ_pos _⟩)
      (And.intro (show bits BinOp.andNot IntKind.u8 ((b.toNat : Nat) : Int) 224 = ((b.toNat % 32 : Nat) : Int) from andNot_b b)
      (And.intro (show (0 : Int) = ((0 : Nat) : Int) ∧ 0 < (ofL (b :: r)).size from ⟨rfl, Nat.succ_pos _⟩)
      (And.intro (show flat [.c (byteV b), .y r] = (ofL (b :: r)).data.toList.map byteV from flat_cy _ _)
      (And.intro (show ((((ofL (b :: r)).size : Nat) : Int) == 48) = true from by rw [hL]; decide)
      (And.intro (show bits BinOp.and IntKind.u8 ((b.toNat : Nat) : Int) 224 = ((192 : Nat) : Int) from and_b b 192 hf)
      (And.intro (show (0 : Int) ≤ 0 ∧ (0 : Int) < (ofL (b :: r)).size ∧ ((ofL (b :: r))[(0 : Int).toNat]?.getD 0).toNat = b.toNat from ⟨by decide, by rw [hL]; decide, by rw [ofL_get]; rfl⟩)
      (And.intro (show ((((ofL (b :: r)).size : Nat) : Int) != 48) = false from by rw [hL]; decide) trivial)))))))))))
theorem head48_16n (b : UInt8) (r : List UInt8) (hL : (ofL (b :: r)).size = 48) (hf : b.toNat / 32 * 32 = 192) (j : Nat) (hj : j < r.length + 1) (hz : hv (b.toNat % 32) r j ≠ 0) : Gives Try.prog 19 [.t (.v (.string (ofL (b :: r)))), .t (.v (.int .i64 48))] (.tp [.v (.string (ofL [])), .v (.int .u8 0), .v (.int .i64 33)]) :=
  fn_gives_at (P := Try.prog) (X := rulesX _) (env := []) trivial Try.func19 0 (oL [(6, wF), (15, rO 1 b.toNat), (16, { ch := 1, hi := fun _ => 192 }), (24, wT), (42, { ch := 0, hi := fun _ => 0, ex := 2, cs := fun _ => [.c (byteV b), .y r] }), (45, rO 9 0), (47, { ch := 1, hi := fun _ => b.toNat % 32 }), (48, rO 9 0), (49, { ch := 0, hi := fun _ => 0, ex := 3 }), (56, lpO { I := hdI 192 (b.toNat % 32) r 0, ex := .ret, E := hdE, fr := 57 })]) (by kernel_rfl) ⟨_, rfl⟩
      (And.intro (show some (hdI 192 (b.toNat % 32) r 0) = some (hdI 192 (b.toNat % 32) r 0) from rfl)
      (And.intro (hd_no 192 (b.toNat % 32) r (show r.length + 1 ≤ 1000 from by have h : r.length + 1 = 48 := hL; omega) j hj hz)
      (And.intro (show (0 : Int) = ((0 : Nat) : Int) ∧ 0 < (ofL (b :: r)).size from ⟨rfl, Nat.succ_pos _⟩)
      (And.intro (show bits BinOp.andNot IntKind.u8 ((b.toNat : Nat) : Int) 224 = ((b.toNat % 32 : Nat) : Int) from andNot_b b)
      (And.intro (show (0 : Int) = ((0 : Nat) : Int) ∧ 0 < (ofL (b :: r)).size from ⟨rfl, Nat.succ_pos _⟩)
      (And.intro (show flat [.c (byteV b), .y r] = (ofL (b :: r)).data.toList.map byteV from flat_cy _ _)
      (And.intro (show ((((ofL (b :: r)).size : Nat) : Int) == 48) = true from by rw [hL]; decide)
      (And.intro (show bits BinOp.and IntKind.u8 ((b.toNat : Nat) : Int) 224 = ((192 : Nat) : Int) from and_b b 192 hf)
      (And.intro (show (0 : Int) ≤ 0 ∧ (0 : Int) < (ofL (b :: r)).size ∧ ((ofL (b :: r))[(0 : Int).toNat]?.getD 0).toNat = b.toNat from ⟨by decide, by rw [hL]; decide, by rw [ofL_get]; rfl⟩)
      (And.intro (show ((((ofL (b :: r)).size : Nat) : Int) != 48) = false from by rw [hL]; decide) trivial))))))))))
theorem head48_17 (b : UInt8) (r : List UInt8) (hL : (ofL (b :: r)).size = 48) (hf : b.toNat / 32 * 32 = 224) : Gives Try.prog 19 [.t (.v (.string (ofL (b :: r)))), .t (.v (.int .i64 48))] (.tp [.v (.string (ofL [])), .v (.int .u8 0), .v (.int .i64 32)]) :=
  fn_gives_at (P := Try.prog) (X := rulesX _) (env := []) trivial Try.func19 0 (oL [(6, wF), (15, rO 1 b.toNat), (16, { ch := 1, hi := fun _ => 224 }), (24, wT)]) (by kernel_rfl) ⟨_, rfl⟩
      (And.intro (show ((((ofL (b :: r)).size : Nat) : Int) == 48) = true from by rw [hL]; decide)
      (And.intro (show bits BinOp.and IntKind.u8 ((b.toNat : Nat) : Int) 224 = ((224 : Nat) : Int) from and_b b 224 hf)
      (And.intro (show (0 : Int) ≤ 0 ∧ (0 : Int) < (ofL (b :: r)).size ∧ ((ofL (b :: r))[(0 : Int).toNat]?.getD 0).toNat = b.toNat from ⟨by decide, by rw [hL]; decide, by rw [ofL_get]; rfl⟩)
      (And.intro (show ((((ofL (b :: r)).size : Nat) : Int) != 48) = false from by rw [hL]; decide) trivial))))
theorem head48_00 (b : UInt8) (r : List UInt8) (hL : (ofL (b :: r)).size = 96) (hf : b.toNat / 32 * 32 = 0) : Gives Try.prog 19 [.t (.v (.string (ofL (b :: r)))), .t (.v (.int .i64 48))] (.tp [.v (.string (ofL (UInt8.ofNat (b.toNat % 32) :: r))), .v (.int .u8 0), .v (.int .i64 0)]) :=
  fn_gives_at (P := Try.prog) (X := rulesX _) (env := []) trivial Try.func19 0 (oL [(6, wT), (12, wF), (15, rO 1 b.toNat), (16, { ch := 1, hi := fun _ => 0 }), (24, wF), (42, { ch := 0, hi := fun _ => 0, ex := 2, cs := fun _ => [.c (byteV b), .y r] }), (45, rO 9 0), (47, { ch := 1, hi := fun _ => b.toNat % 32 }), (48, rO 9 0), (49, { ch := 0, hi := fun _ => 0, ex := 3 }), (54, { ch := 0, hi := fun _ => 0, ru := 10, av := fun _ => .v (.string (ofL (UInt8.ofNat (b.toNat % 32) :: r))) })]) (by kernel_rfl) ⟨_, rfl⟩
      (And.intro (show (flat [.c (.int .u8 ((b.toNat % 32 : Nat) : Int)), .y r]).take (ofL (b :: r)).size = (ofL (UInt8.ofNat (b.toNat % 32) :: r)).data.toList.map byteV ∧ (ofL (b :: r)).size = (ofL (UInt8.ofNat (b.toNat % 32) :: r)).size from mask_cells b r)
      (And.intro (show (0 : Int) = ((0 : Nat) : Int) ∧ 0 < (ofL (b :: r)).size from ⟨rfl, Nat.succ_pos _⟩)
      (And.intro (show bits BinOp.andNot IntKind.u8 ((b.toNat : Nat) : Int) 224 = ((b.toNat % 32 : Nat) : Int) from andNot_b b)
      (And.intro (show (0 : Int) = ((0 : Nat) : Int) ∧ 0 < (ofL (b :: r)).size from ⟨rfl, Nat.succ_pos _⟩)
      (And.intro (show flat [.c (byteV b), .y r] = (ofL (b :: r)).data.toList.map byteV from flat_cy _ _)
      (And.intro (show ((((ofL (b :: r)).size : Nat) : Int) == 48) = false from by rw [hL]; decide)
      (And.intro (show bits BinOp.and IntKind.u8 ((b.toNat : Nat) : Int) 224 = ((0 : Nat) : Int) from and_b b 0 hf)
      (And.intro (show (0 : Int) ≤ 0 ∧ (0 : Int) < (ofL (b :: r)).size ∧ ((ofL (b :: r))[(0 : Int).toNat]?.getD 0).toNat = b.toNat from ⟨by decide, by rw [hL]; decide, by rw [ofL_get]; rfl⟩)
      (And.intro (show ((((ofL (b :: r)).size : Nat) : Int) != 96) = false from by rw [hL]; decide)
      (And.intro (show ((((ofL (b :: r)).size : Nat) : Int) != 48) = true from by rw [hL]; decide) trivial))))))))))
theorem head48_01 (b : UInt8) (r : List UInt8) (hL : (ofL (b :: r)).size = 96) (hf : b.toNat / 32 * 32 = 32) : Gives Try.prog 19 [.t (.v (.string (ofL (b :: r)))), .t (.v (.int .i64 48))] (.tp [.v (.string (ofL [])), .v (.int .u8 0), .v (.int .i64 32)]) :=
  fn_gives_at (P := Try.prog) (X := rulesX _) (env := []) trivial Try.func19 0 (oL [(6, wT), (12, wF), (15, rO 1 b.toNat), (16, { ch := 1, hi := fun _ => 32 }), (24, wF)]) (by kernel_rfl) ⟨_, rfl⟩
      (And.intro (show ((((ofL (b :: r)).size : Nat) : Int) == 48) = false from by rw [hL]; decide)
      (And.intro (show bits BinOp.and IntKind.u8 ((b.toNat : Nat) : Int) 224 = ((32 : Nat) : Int) from and_b b 32 hf)
      (And.intro (show (0 : Int) ≤ 0 ∧ (0 : Int) < (ofL (b :: r)).size ∧ ((ofL (b :: r))[(0 : Int).toNat]?.getD 0).toNat = b.toNat from ⟨by decide, by rw [hL]; decide, by rw [ofL_get]; rfl⟩)
      (And.intro (show ((((ofL (b :: r)).size : Nat) : Int) != 96) = false from by rw [hL]; decide)
      (And.intro (show ((((ofL (b :: r)).size : Nat) : Int) != 48) = true from by rw [hL]; decide) trivial)))))
theorem head48_02z (b : UInt8) (r : List UInt8) (hL : (ofL (b :: r)).size = 96) (hf : b.toNat / 32 * 32 = 64) (hz : ∀ i, i < r.length + 1 → hv (b.toNat % 32) r i = 0) : Gives Try.prog 19 [.t (.v (.string (ofL (b :: r)))), .t (.v (.int .i64 48))] (.tp [.v (.string (ofL (UInt8.ofNat (b.toNat % 32) :: r))), .v (.int .u8 64), .v (.int .i64 0)]) :=
  fn_gives_at (P := Try.prog) (X := rulesX _) (env := []) trivial Try.func19 0 (oL [(6, wT), (12, wF), (15, rO 1 b.toNat), (16, { ch := 1, hi := fun _ => 64 }), (24, wF), (42, { ch := 0, hi := fun _ => 0, ex := 2, cs := fun _ => [.c (byteV b), .y r] }), (45, rO 9 0), (47, { ch := 1, hi := fun _ => b.toNat % 32 }), (48, rO 9 0), (49, { ch := 0, hi := fun _ => 0, ex := 3 }), (56, lpO { I := hdI 64 (b.toNat % 32) r 0, ex := .exit 0, E := hdZ 64 (b.toNat % 32) r, fr := 57 }), (58, { ch := 0, hi := fun _ => 0, ru := 10, av := fun _ => .v (.string (ofL (UInt8.ofNat (b.toNat % 32) :: r))) })]) (by kernel_rfl) ⟨_, rfl⟩
      (And.intro (show (flat [.c (.int .u8 ((b.toNat % 32 : Nat) : Int)), .y r]).take (ofL (b :: r)).size = (ofL (UInt8.ofNat (b.toNat % 32) :: r)).data.toList.map byteV ∧ (ofL (b :: r)).size = (ofL (UInt8.ofNat (b.toNat % 32) :: r)).size from mask_cells b r)
      (And.intro (show some (hdI 64 (b.toNat % 32) r 0) = some (hdI 64 (b.toNat % 32) r 0) from rfl)
      (And.intro (hd_zero 64 (b.toNat % 32) r (show r.length + 1 ≤ 1000 from by have h : r.length + 1 = 96 := hL; omega) hz)
      (And.intro (show (0 : Int) = ((0 : Nat) : Int) ∧ 0 < (ofL (b :: r)).size from ⟨rfl, Nat.succ_pos _⟩)
      (And.intro (show bits BinOp.andNot IntKind.u8 ((b.toNat : Nat) : Int) 224 = ((b.toNat % 32 : Nat) : Int) from andNot_b b)
      (And.intro (show (0 : Int) = ((0 : Nat) : Int) ∧ 0 < (ofL (b :: r)).size from ⟨rfl, Nat.succ_pos _⟩)
      (And.intro (show flat [.c (byteV b), .y r] = (ofL (b :: r)).data.toList.map byteV from flat_cy _ _)
      (And.intro (show ((((ofL (b :: r)).size : Nat) : Int) == 48) = false from by rw [hL]; decide)
      (And.intro (show bits BinOp.and IntKind.u8 ((b.toNat : Nat) : Int) 224 = ((64 : Nat) : Int) from and_b b 64 hf)
      (And.intro (show (0 : Int) ≤ 0 ∧ (0 : Int) < (ofL (b :: r)).size ∧ ((ofL (b :: r))[(0 : Int).toNat]?.getD 0).toNat = b.toNat from ⟨by decide, by rw [hL]; decide, by rw [ofL_get]; rfl⟩)
      (And.intro (show ((((ofL (b :: r)).size : Nat) : Int) != 96) = false from by rw [hL]; decide)
      (And.intro (show ((((ofL (b :: r)).size : Nat) : Int) != 48) = true from by rw [hL]; decide) trivial))))))))))))
theorem head48_02n (b : UInt8) (r : List UInt8) (hL : (ofL (b :: r)).size = 96) (hf : b.toNat / 32 * 32 = 64) (j : Nat) (hj : j < r.length + 1) (hz : hv (b.toNat % 32) r j ≠ 0) : Gives Try.prog 19 [.t (.v (.string (ofL (b :: r)))), .t (.v (.int .i64 48))] (.tp [.v (.string (ofL [])), .v (.int .u8 0), .v (.int .i64 33)]) :=
  fn_gives_at (P := Try.prog) (X := rulesX _) (env := []) trivial Try.func19 0 (oL [(6, wT), (12, wF), (15, rO 1 b.toNat), (16, { ch := 1, hi := fun _ => 64 }), (24, wF), (42, { ch := 0, hi := fun _ => 0, ex := 2, cs := fun _ => [.c (byteV b), .y r] }), (45, rO 9 0), (47, { ch := 1, hi := fun _ => b.toNat % 32 }), (48, rO 9 0), (49, { ch := 0, hi := fun _ => 0, ex := 3 }), (56, lpO { I := hdI 64 (b.toNat % 32) r 0, ex := .ret, E := hdE, fr := 57 })]) (by kernel_rfl) ⟨_, rfl⟩
      (And.intro (show some (hdI 64 (b.toNat % 32) r 0) = some (hdI 64 (b.toNat % 32) r 0) from rfl)
      (And.intro (hd_no 64 (b.toNat % 32) r (show r.length + 1 ≤ 1000 from by have h : r.length + 1 = 96 := hL; omega) j hj hz)
      (And.intro (show (0 : Int) = ((0 : Nat) : Int) ∧ 0 < (ofL (b :: r)).size from ⟨rfl, Nat.succ_pos _⟩)
      (And.intro (show bits BinOp.andNot IntKind.u8 ((b.toNat : Nat) : Int) 224 = ((b.toNat % 32 : Nat) : Int) from andNot_b b)
      (And.intro (show (0 : Int) = ((0 : Nat) : Int) ∧ 0 < (ofL (b :: r)).size from ⟨rfl, Nat.succ_pos _⟩)
      (And.intro (show flat [.c (byteV b), .y r] = (ofL (b :: r)).data.toList.map byteV from flat_cy _ _)
      (And.intro (show ((((ofL (b :: r)).size : Nat) : Int) == 48) = false from by rw [hL]; decide)
      (And.intro (show bits BinOp.and IntKind.u8 ((b.toNat : Nat) : Int) 224 = ((64 : Nat) : Int) from and_b b 64 hf)
      (And.intro (show (0 : Int) ≤ 0 ∧ (0 : Int) < (ofL (b :: r)).size ∧ ((ofL (b :: r))[(0 : Int).toNat]?.getD 0).toNat = b.toNat from ⟨by decide, by rw [hL]; decide, by rw [ofL_get]; rfl⟩)
      (And.intro (show ((((ofL (b :: r)).size : Nat) : Int) != 96) = false from by rw [hL]; decide)
      (And.intro (show ((((ofL (b :: r)).size : Nat) : Int) != 48) = true from by rw [hL]; decide) trivial)))))))))))
theorem head48_03 (b : UInt8) (r : List UInt8) (hL : (ofL (b :: r)).size = 96) (hf : b.toNat / 32 * 32 = 96) : Gives Try.prog 19 [.t (.v (.string (ofL (b :: r)))), .t (.v (.int .i64 48))] (.tp [.v (.string (ofL [])), .v (.int .u8 0), .v (.int .i64 32)]) :=
  fn_gives_at (P := Try.prog) (X := rulesX _) (env := []) trivial Try.func19 0 (oL [(6, wT), (12, wF), (15, rO 1 b.toNat), (16, { ch := 1, hi := fun _ => 96 }), (24, wF)]) (by kernel_rfl) ⟨_, rfl⟩
      (And.intro (show ((((ofL (b :: r)).size : Nat) : Int) == 48) = false from by rw [hL]; decide)
      (And.intro (show bits BinOp.and IntKind.u8 ((b.toNat : Nat) : Int) 224 = ((96 : Nat) : Int) from and_b b 96 hf)
      (And.intro (show (0 : Int) ≤ 0 ∧ (0 : Int) < (ofL (b :: r)).size ∧ ((ofL (b :: r))[(0 : Int).toNat]?.getD 0).toNat = b.toNat from ⟨by decide, by rw [hL]; decide, by rw [ofL_get]; rfl⟩)
      (And.intro (show ((((ofL (b :: r)).size : Nat) : Int) != 96) = false from by rw [hL]; decide)
      (And.intro (show ((((ofL (b :: r)).size : Nat) : Int) != 48) = true from by rw [hL]; decide) trivial)))))
theorem head48_04 (b : UInt8) (r : List UInt8) (hL : (ofL (b :: r)).size = 96) (hf : b.toNat / 32 * 32 = 128) : Gives Try.prog 19 [.t (.v (.string (ofL (b :: r)))), .t (.v (.int .i64 48))] (.tp [.v (.string (ofL [])), .v (.int .u8 0), .v (.int .i64 32)]) :=
  fn_gives_at (P := Try.prog) (X := rulesX _) (env := []) trivial Try.func19 0 (oL [(6, wT), (12, wF), (15, rO 1 b.toNat), (16, { ch := 1, hi := fun _ => 128 }), (24, wF)]) (by kernel_rfl) ⟨_, rfl⟩
      (And.intro (show ((((ofL (b :: r)).size : Nat) : Int) == 48) = false from by rw [hL]; decide)
      (And.intro (show bits BinOp.and IntKind.u8 ((b.toNat : Nat) : Int) 224 = ((128 : Nat) : Int) from and_b b 128 hf)
      (And.intro (show (0 : Int) ≤ 0 ∧ (0 : Int) < (ofL (b :: r)).size ∧ ((ofL (b :: r))[(0 : Int).toNat]?.getD 0).toNat = b.toNat from ⟨by decide, by rw [hL]; decide, by rw [ofL_get]; rfl⟩)
      (And.intro (show ((((ofL (b :: r)).size : Nat) : Int) != 96) = false from by rw [hL]; decide)
      (And.intro (show ((((ofL (b :: r)).size : Nat) : Int) != 48) = true from by rw [hL]; decide) trivial)))))
theorem head48_05 (b : UInt8) (r : List UInt8) (hL : (ofL (b :: r)).size = 96) (hf : b.toNat / 32 * 32 = 160) : Gives Try.prog 19 [.t (.v (.string (ofL (b :: r)))), .t (.v (.int .i64 48))] (.tp [.v (.string (ofL [])), .v (.int .u8 0), .v (.int .i64 32)]) :=
  fn_gives_at (P := Try.prog) (X := rulesX _) (env := []) trivial Try.func19 0 (oL [(6, wT), (12, wF), (15, rO 1 b.toNat), (16, { ch := 1, hi := fun _ => 160 }), (24, wF)]) (by kernel_rfl) ⟨_, rfl⟩
      (And.intro (show ((((ofL (b :: r)).size : Nat) : Int) == 48) = false from by rw [hL]; decide)
      (And.intro (show bits BinOp.and IntKind.u8 ((b.toNat : Nat) : Int) 224 = ((160 : Nat) : Int) from and_b b 160 hf)
      (And.intro (show (0 : Int) ≤ 0 ∧ (0 : Int) < (ofL (b :: r)).size ∧ ((ofL (b :: r))[(0 : Int).toNat]?.getD 0).toNat = b.toNat from ⟨by decide, by rw [hL]; decide, by rw [ofL_get]; rfl⟩)
      (And.intro (show ((((ofL (b :: r)).size : Nat) : Int) != 96) = false from by rw [hL]; decide)
      (And.intro (show ((((ofL (b :: r)).size : Nat) : Int) != 48) = true from by rw [hL]; decide) trivial)))))
theorem head48_06 (b : UInt8) (r : List UInt8) (hL : (ofL (b :: r)).size = 96) (hf : b.toNat / 32 * 32 = 192) : Gives Try.prog 19 [.t (.v (.string (ofL (b :: r)))), .t (.v (.int .i64 48))] (.tp [.v (.string (ofL [])), .v (.int .u8 0), .v (.int .i64 32)]) :=
  fn_gives_at (P := Try.prog) (X := rulesX _) (env := []) trivial Try.func19 0 (oL [(6, wT), (12, wF), (15, rO 1 b.toNat), (16, { ch := 1, hi := fun _ => 192 }), (24, wF)]) (by kernel_rfl) ⟨_, rfl⟩
      (And.intro (show ((((ofL (b :: r)).size : Nat) : Int) == 48) = false from by rw [hL]; decide)
      (And.intro (show bits BinOp.and IntKind.u8 ((b.toNat : Nat) : Int) 224 = ((192 : Nat) : Int) from and_b b 192 hf)
      (And.intro (show (0 : Int) ≤ 0 ∧ (0 : Int) < (ofL (b :: r)).size ∧ ((ofL (b :: r))[(0 : Int).toNat]?.getD 0).toNat = b.toNat from ⟨by decide, by rw [hL]; decide, by rw [ofL_get]; rfl⟩)
      (And.intro (show ((((ofL (b :: r)).size : Nat) : Int) != 96) = false from by rw [hL]; decide)
      (And.intro (show ((((ofL (b :: r)).size : Nat) : Int) != 48) = true from by rw [hL]; decide) trivial)))))
theorem head48_07 (b : UInt8) (r : List UInt8) (hL : (ofL (b :: r)).size = 96) (hf : b.toNat / 32 * 32 = 224) : Gives Try.prog 19 [.t (.v (.string (ofL (b :: r)))), .t (.v (.int .i64 48))] (.tp [.v (.string (ofL [])), .v (.int .u8 0), .v (.int .i64 32)]) :=
  fn_gives_at (P := Try.prog) (X := rulesX _) (env := []) trivial Try.func19 0 (oL [(6, wT), (12, wF), (15, rO 1 b.toNat), (16, { ch := 1, hi := fun _ => 224 }), (24, wF)]) (by kernel_rfl) ⟨_, rfl⟩
      (And.intro (show ((((ofL (b :: r)).size : Nat) : Int) == 48) = false from by rw [hL]; decide)
      (And.intro (show bits BinOp.and IntKind.u8 ((b.toNat : Nat) : Int) 224 = ((224 : Nat) : Int) from and_b b 224 hf)
      (And.intro (show (0 : Int) ≤ 0 ∧ (0 : Int) < (ofL (b :: r)).size ∧ ((ofL (b :: r))[(0 : Int).toNat]?.getD 0).toNat = b.toNat from ⟨by decide, by rw [hL]; decide, by rw [ofL_get]; rfl⟩)
      (And.intro (show ((((ofL (b :: r)).size : Nat) : Int) != 96) = false from by rw [hL]; decide)
      (And.intro (show ((((ofL (b :: r)).size : Nat) : Int) != 48) = true from by rw [hL]; decide) trivial)))))
theorem mask_nat (b : UInt8) (r : List UInt8) : (maskL (b :: r)).map UInt8.toNat = b.toNat % 32 :: r.map UInt8.toNat := by
  show (UInt8.ofNat (b.toNat % 32)).toNat :: r.map UInt8.toNat = _
  rw [UInt8.toNat_ofNat', show b.toNat % 32 % 2 ^ 8 = b.toNat % 32 by omega]
theorem allZ_iff (b : UInt8) (r : List UInt8) : allZ (maskL (b :: r)) ↔ ∀ i, i < r.length + 1 → hv (b.toNat % 32) r i = 0 := by
  unfold hv
  rw [← mask_nat]
  have hl : (maskL (b :: r)).length = r.length + 1 := rfl
  constructor
  · intro h i hi
    have hi' : i < (maskL (b :: r)).length := by omega
    rw [List.getElem?_map, List.getElem?_eq_getElem hi', h _ (List.getElem_mem hi')]
    rfl
  · intro h x hx
    obtain ⟨i, hi, rfl⟩ := List.mem_iff_getElem.1 hx
    have h1 := h i (by omega)
    rw [List.getElem?_map, List.getElem?_eq_getElem hi] at h1
    exact UInt8.toNat_inj.1 h1
theorem not_allZ (b : UInt8) (r : List UInt8) (h : ¬ allZ (maskL (b :: r))) : ∃ j, j < r.length + 1 ∧ hv (b.toNat % 32) r j ≠ 0 := by
  refine Classical.byContradiction fun hn => h ((allZ_iff b r).2 fun i hi => Classical.byContradiction fun hz => hn ⟨i, hi, hz⟩)
def altHd48 (l : List UInt8) : Alts := [(some (l.length ≠ 48 ∧ l.length ≠ 96), .tp [.v (.string (ofL [])), .v (.int .u8 0), .v (.int .i64 3)]), (some ((l.length = 48 ∧ top3 l ≠ 4 ∧ top3 l ≠ 5 ∧ top3 l ≠ 6) ∨ (l.length = 96 ∧ top3 l ≠ 0 ∧ top3 l ≠ 2)), .tp [.v (.string (ofL [])), .v (.int .u8 0), .v (.int .i64 32)]), (some (((l.length = 48 ∧ top3 l = 6) ∨ (l.length = 96 ∧ top3 l = 2)) ∧ ¬ allZ (maskL l)), .tp [.v (.string (ofL [])), .v (.int .u8 0), .v (.int .i64 33)]), (some (l.length = 48 ∧ top3 l = 4), .tp [.v (.string (ofL (maskL l))), .v (.int .u8 128), .v (.int .i64 0)]), (some (l.length = 48 ∧ top3 l = 5), .tp [.v (.string (ofL (maskL l))), .v (.int .u8 160), .v (.int .i64 0)]), (some (l.length = 96 ∧ top3 l = 0), .tp [.v (.string (ofL (maskL l))), .v (.int .u8 0), .v (.int .i64 0)]), (some ((l.length = 48 ∧ top3 l = 6) ∧ allZ (maskL l)), .tp [.v (.string (ofL (maskL l))), .v (.int .u8 192), .v (.int .i64 0)]), (some ((l.length = 96 ∧ top3 l = 2) ∧ allZ (maskL l)), .tp [.v (.string (ofL (maskL l))), .v (.int .u8 64), .v (.int .i64 0)])]
def eHd48 : Entry := entry2 19 XPar.str (XPar.int .i64) (fun l m => match decide (m = 48) with | true => altHd48 l | false => [])
theorem hd48 (l : List UInt8) : ∀ c r, (c, r) ∈ altHd48 l → c.getD True → Gives Try.prog 19 [.t (.v (.string (ofL l))), .t (.v (.int .i64 48))] r := by
  intro c x hm hc
  simp only [altHd48, List.mem_cons, Prod.mk.injEq, List.not_mem_nil, or_false] at hm
  rcases hm with ⟨rfl, rfl⟩ | ⟨rfl, rfl⟩ | ⟨rfl, rfl⟩ | ⟨rfl, rfl⟩ | ⟨rfl, rfl⟩ | ⟨rfl, rfl⟩ | ⟨rfl, rfl⟩ | ⟨rfl, rfl⟩
  · exact head48_len l hc.1 hc.2
  · match l, hc with
    | [], hc => simp at hc
    | b :: r, hc =>
      have hb := UInt8.toNat_lt b
      rcases hc with ⟨hL, h4, h5, h6⟩ | ⟨hL, h0, h2⟩
      · have h4 : b.toNat / 32 ≠ 4 := h4
        have h5 : b.toNat / 32 ≠ 5 := h5
        have h6 : b.toNat / 32 ≠ 6 := h6
        obtain h | h | h | h | h : b.toNat / 32 = 0 ∨ b.toNat / 32 = 1 ∨ b.toNat / 32 = 2 ∨ b.toNat / 32 = 3 ∨ b.toNat / 32 = 7 := by omega
        · exact head48_10 b r hL (by rw [h])
        · exact head48_11 b r hL (by rw [h])
        · exact head48_12 b r hL (by rw [h])
        · exact head48_13 b r hL (by rw [h])
        · exact head48_17 b r hL (by rw [h])
      · have h0 : b.toNat / 32 ≠ 0 := h0
        have h2 : b.toNat / 32 ≠ 2 := h2
        obtain h | h | h | h | h | h : b.toNat / 32 = 1 ∨ b.toNat / 32 = 3 ∨ b.toNat / 32 = 4 ∨ b.toNat / 32 = 5 ∨ b.toNat / 32 = 6 ∨ b.toNat / 32 = 7 := by omega
        · exact head48_01 b r hL (by rw [h])
        · exact head48_03 b r hL (by rw [h])
        · exact head48_04 b r hL (by rw [h])
        · exact head48_05 b r hL (by rw [h])
        · exact head48_06 b r hL (by rw [h])
        · exact head48_07 b r hL (by rw [h])
  · match l, hc with
    | [], hc => simp at hc
    | b :: r, hc =>
      obtain ⟨hc, hn⟩ := hc
      obtain ⟨j, hj, hz⟩ := not_allZ b r hn
      rcases hc with ⟨hL, h⟩ | ⟨hL, h⟩
      · have h : b.toNat / 32 = 6 := h
        exact head48_16n b r hL (by rw [h]) j hj hz
      · have h : b.toNat / 32 = 2 := h
        exact head48_02n b r hL (by rw [h]) j hj hz
  · match l, hc with
    | [], hc => simp at hc
    | b :: r, hc =>
      obtain ⟨hL, h⟩ := hc
      have h : b.toNat / 32 = 4 := h
      exact head48_14 b r hL (by rw [h])
  · match l, hc with
    | [], hc => simp at hc
    | b :: r, hc =>
      obtain ⟨hL, h⟩ := hc
      have h : b.toNat / 32 = 5 := h
      exact head48_15 b r hL (by rw [h])
  · match l, hc with
    | [], hc => simp at hc
    | b :: r, hc =>
      obtain ⟨hL, h⟩ := hc
      have h : b.toNat / 32 = 0 := h
      exact head48_00 b r hL (by rw [h])
  · match l, hc with
    | [], hc => simp at hc
    | b :: r, hc =>
      obtain ⟨hL, h⟩ := hc.1
      have h : b.toNat / 32 = 6 := h
      exact head48_16z b r hL (by rw [h]) ((allZ_iff b r).1 hc.2)
  · match l, hc with
    | [], hc => simp at hc
    | b :: r, hc =>
      obtain ⟨hL, h⟩ := hc.1
      have h : b.toNat / 32 = 2 := h
      exact head48_02z b r hL (by rw [h]) ((allZ_iff b r).1 hc.2)
theorem eHd48_ok : eHd48.OK Try.prog := entry2_ok (fun args w => Go.Proofs.enters_of (P := Try.prog) Try.func19 (by kernel_rfl) rfl args w) (fun l m c r hm hc => by
  by_cases e : m = 48
  · subst e
    exact hd48 l c r hm hc
  · rw [decide_eq_false e] at hm
    cases hm)
end Go.Proofs.Ytobgpmclgacbmaa

/- Contract of point.Get1. -/
set_option linter.unusedSimpArgs false
set_option linter.unusedVariables false
namespace Go.Proofs.Ytobgpmclgacbmaa
open Go.Ev Go.RowKit
theorem mask_length (l : List UInt8) : (maskL l).length = l.length := by
  match l with
  | [] => rfl
  | b :: r => rfl
theorem mask_size (l : List UInt8) : (ofL (maskL l)).size = l.length := mask_length l
theorem drop_size (l : List UInt8) (n : Nat) : (ofL ((maskL l).drop n)).size = l.length - n := by
  show ((maskL l).drop n).length = _
  rw [List.length_drop, mask_length]
theorem drop2_size (l : List UInt8) (n k : Nat) : (ofL (((maskL l).drop n).drop k)).size = l.length - n - k := by
  show (((maskL l).drop n).drop k).length = _
  rw [List.length_drop, List.length_drop, mask_length]
def nX (l : List UInt8) : Nat := deN 48 ((maskL l).take 48)
def nY (l : List UInt8) : Nat := deN 48 (((maskL l).drop 48).take 48)
/-- The root that is asked for. -/
def sy1 (a : Fin Pp) (high : Bool) : Fin Pp := match high with | true => -(lowP (rtP a)) | false => lowP (rtP a)
theorem get1_e3 (l : List UInt8) (h : l.length ≠ 48 ∧ l.length ≠ 96) : Gives Try.prog 7 [.t (.v (.string (ofL l)))] (.tp [.ag [.c (.int .u64 0), .c (.int .u64 0), .c (.int .u64 0), .c (.int .u64 0), .c (.int .u64 0), .c (.int .u64 0), .c (.int .u64 0), .c (.int .u64 0), .c (.int .u64 0), .c (.int .u64 0), .c (.int .u64 0), .c (.int .u64 0), .c (.bool false)], .v (.int .i64 3)]) :=
  fn_gives_at (P := Try.prog) (X := rulesX _) (env := [eHd48, efgetP, eInPq, eTimesP, ePlusP, eSmP, eRootP, eNegP, eOutP, eRig1, eGrp1]) ⟨eHd48_ok, efgetP_ok, eInPq_ok, eTimesP_ok, ePlusP_ok, eSmP_ok, eRootP_ok, eNegP_ok, eOutP_ok, eRig1_ok, eGrp1_ok, trivial⟩ Try.func7 2 (oL [(3, wO 0)]) (by kernel_rfl) ⟨_, rfl⟩
      (And.intro (show l.length ≠ 48 ∧ l.length ≠ 96 from h) trivial)
theorem get1_e32 (l : List UInt8) (h : (l.length = 48 ∧ top3 l ≠ 4 ∧ top3 l ≠ 5 ∧ top3 l ≠ 6) ∨ (l.length = 96 ∧ top3 l ≠ 0 ∧ top3 l ≠ 2)) : Gives Try.prog 7 [.t (.v (.string (ofL l)))] (.tp [.ag [.c (.int .u64 0), .c (.int .u64 0), .c (.int .u64 0), .c (.int .u64 0), .c (.int .u64 0), .c (.int .u64 0), .c (.int .u64 0), .c (.int .u64 0), .c (.int .u64 0), .c (.int .u64 0), .c (.int .u64 0), .c (.int .u64 0), .c (.bool false)], .v (.int .i64 32)]) :=
  fn_gives_at (P := Try.prog) (X := rulesX _) (env := [eHd48, efgetP, eInPq, eTimesP, ePlusP, eSmP, eRootP, eNegP, eOutP, eRig1, eGrp1]) ⟨eHd48_ok, efgetP_ok, eInPq_ok, eTimesP_ok, ePlusP_ok, eSmP_ok, eRootP_ok, eNegP_ok, eOutP_ok, eRig1_ok, eGrp1_ok, trivial⟩ Try.func7 2 (oL [(3, wO 1)]) (by kernel_rfl) ⟨_, rfl⟩
      (And.intro (show (l.length = 48 ∧ top3 l ≠ 4 ∧ top3 l ≠ 5 ∧ top3 l ≠ 6) ∨ (l.length = 96 ∧ top3 l ≠ 0 ∧ top3 l ≠ 2) from h) trivial)
theorem get1_e33 (l : List UInt8) (h : ((l.length = 48 ∧ top3 l = 6) ∨ (l.length = 96 ∧ top3 l = 2)) ∧ ¬ allZ (maskL l)) : Gives Try.prog 7 [.t (.v (.string (ofL l)))] (.tp [.ag [.c (.int .u64 0), .c (.int .u64 0), .c (.int .u64 0), .c (.int .u64 0), .c (.int .u64 0), .c (.int .u64 0), .c (.int .u64 0), .c (.int .u64 0), .c (.int .u64 0), .c (.int .u64 0), .c (.int .u64 0), .c (.int .u64 0), .c (.bool false)], .v (.int .i64 33)]) :=
  fn_gives_at (P := Try.prog) (X := rulesX _) (env := [eHd48, efgetP, eInPq, eTimesP, ePlusP, eSmP, eRootP, eNegP, eOutP, eRig1, eGrp1]) ⟨eHd48_ok, efgetP_ok, eInPq_ok, eTimesP_ok, ePlusP_ok, eSmP_ok, eRootP_ok, eNegP_ok, eOutP_ok, eRig1_ok, eGrp1_ok, trivial⟩ Try.func7 2 (oL [(3, wO 2)]) (by kernel_rfl) ⟨_, rfl⟩
      (And.intro (show ((l.length = 48 ∧ top3 l = 6) ∨ (l.length = 96 ∧ top3 l = 2)) ∧ ¬ allZ (maskL l) from h) trivial)
theorem get1_i6 (l : List UInt8) (h : (l.length = 48 ∧ top3 l = 6) ∧ allZ (maskL l)) : Gives Try.prog 7 [.t (.v (.string (ofL l)))] (.tp [.ag [.c (.int .u64 0), .c (.int .u64 0), .c (.int .u64 0), .c (.int .u64 0), .c (.int .u64 0), .c (.int .u64 0), .c (.int .u64 0), .c (.int .u64 0), .c (.int .u64 0), .c (.int .u64 0), .c (.int .u64 0), .c (.int .u64 0), .c (.bool true)], .v (.int .i64 0)]) :=
  fn_gives_at (P := Try.prog) (X := rulesX _) (env := [eHd48, efgetP, eInPq, eTimesP, ePlusP, eSmP, eRootP, eNegP, eOutP, eRig1, eGrp1]) ⟨eHd48_ok, efgetP_ok, eInPq_ok, eTimesP_ok, ePlusP_ok, eSmP_ok, eRootP_ok, eNegP_ok, eOutP_ok, eRig1_ok, eGrp1_ok, trivial⟩ Try.func7 2 (oL [(3, wO 6)]) (by kernel_rfl) ⟨_, rfl⟩
      (And.intro (show (l.length = 48 ∧ top3 l = 6) ∧ allZ (maskL l) from h) trivial)
theorem get1_i7 (l : List UInt8) (h : (l.length = 96 ∧ top3 l = 2) ∧ allZ (maskL l)) : Gives Try.prog 7 [.t (.v (.string (ofL l)))] (.tp [.ag [.c (.int .u64 0), .c (.int .u64 0), .c (.int .u64 0), .c (.int .u64 0), .c (.int .u64 0), .c (.int .u64 0), .c (.int .u64 0), .c (.int .u64 0), .c (.int .u64 0), .c (.int .u64 0), .c (.int .u64 0), .c (.int .u64 0), .c (.bool true)], .v (.int .i64 0)]) :=
  fn_gives_at (P := Try.prog) (X := rulesX _) (env := [eHd48, efgetP, eInPq, eTimesP, ePlusP, eSmP, eRootP, eNegP, eOutP, eRig1, eGrp1]) ⟨eHd48_ok, efgetP_ok, eInPq_ok, eTimesP_ok, ePlusP_ok, eSmP_ok, eRootP_ok, eNegP_ok, eOutP_ok, eRig1_ok, eGrp1_ok, trivial⟩ Try.func7 2 (oL [(3, wO 7)]) (by kernel_rfl) ⟨_, rfl⟩
      (And.intro (show (l.length = 96 ∧ top3 l = 2) ∧ allZ (maskL l) from h) trivial)
theorem get1_s4r (l : List UInt8) (hL : l.length = 48) (ht : top3 l = 4) (h : 4002409555221667393417789825735904156556882819939007885332058136124031650490837864442687629129015664037894272559787 ≤ nX l) : Gives Try.prog 7 [.t (.v (.string (ofL l)))] (.tp [.ag [.c (.int .u64 0), .c (.int .u64 0), .c (.int .u64 0), .c (.int .u64 0), .c (.int .u64 0), .c (.int .u64 0), .c (.int .u64 0), .c (.int .u64 0), .c (.int .u64 0), .c (.int .u64 0), .c (.int .u64 0), .c (.int .u64 0), .c (.bool false)], .v (.int .i64 20)]) :=
  fn_gives_at (P := Try.prog) (X := rulesX _) (env := [eHd48, efgetP, eInPq, eTimesP, ePlusP, eSmP, eRootP, eNegP, eOutP, eRig1, eGrp1]) ⟨eHd48_ok, efgetP_ok, eInPq_ok, eTimesP_ok, ePlusP_ok, eSmP_ok, eRootP_ok, eNegP_ok, eOutP_ok, eRig1_ok, eGrp1_ok, trivial⟩ Try.func7 2 (oL [(3, wO 3), (29, { ch := 1, hi := fun _ => 48 }), (36, rO 5 0), (37, wO 2), (45, rO 5 0), (57, { ch := 1, hi := fun _ => 0 })]) (by kernel_rfl) ⟨_, rfl⟩
      (And.intro (show (((ofL ((maskL l).drop 48)).size : Nat) : Int) = ((0 : Nat) : Int) from by rw [drop_size, hL])
      (And.intro (show (0 : Int) ≤ 48 ∧ (48 : Int) ≤ (ofL (maskL l)).size from ⟨by decide, by rw [mask_size, hL]; decide⟩)
      (And.intro (show ((maskL l).take 48).length = 48 ∧ 4002409555221667393417789825735904156556882819939007885332058136124031650490837864442687629129015664037894272559787 ≤ deN 48 ((maskL l).take 48) from ⟨by simp only [List.length_take, List.length_drop, mask_length, hL]; rfl, h⟩)
      (And.intro (show (0 : Int) ≤ 48 ∧ (48 : Int) ≤ (ofL (maskL l)).size from ⟨by decide, by rw [mask_size, hL]; decide⟩)
      (And.intro (show (((ofL (maskL l)).size : Nat) : Int) = ((48 : Nat) : Int) from by rw [mask_size, hL])
      (And.intro (show l.length = 48 ∧ top3 l = 4 from ⟨hL, ht⟩) trivial))))))
theorem get1_s4n (l : List UInt8) (hL : l.length = 48) (ht : top3 l = 4) (h : nX l < 4002409555221667393417789825735904156556882819939007885332058136124031650490837864442687629129015664037894272559787) (hq : ¬ sqP ((ofP (deN 48 ((maskL l).take 48))) * (ofP (deN 48 ((maskL l).take 48))) * (ofP (deN 48 ((maskL l).take 48))) + ofP (4 % 18446744073709551616))) : Gives Try.prog 7 [.t (.v (.string (ofL l)))] (.tp [.ag [.c (.int .u64 0), .c (.int .u64 0), .c (.int .u64 0), .c (.int .u64 0), .c (.int .u64 0), .c (.int .u64 0), .c (.int .u64 0), .c (.int .u64 0), .c (.int .u64 0), .c (.int .u64 0), .c (.int .u64 0), .c (.int .u64 0), .c (.bool false)], .v (.int .i64 30)]) :=
  fn_gives_at (P := Try.prog) (X := rulesX _) (env := [eHd48, efgetP, eInPq, eTimesP, ePlusP, eSmP, eRootP, eNegP, eOutP, eRig1, eGrp1]) ⟨eHd48_ok, efgetP_ok, eInPq_ok, eTimesP_ok, ePlusP_ok, eSmP_ok, eRootP_ok, eNegP_ok, eOutP_ok, eRig1_ok, eGrp1_ok, trivial⟩ Try.func7 2 (oL [(3, wO 3), (29, { ch := 1, hi := fun _ => 48 }), (36, rO 5 0), (37, wO 1), (45, rO 5 0), (57, { ch := 1, hi := fun _ => 0 }), (92, wO 1)]) (by kernel_rfl) ⟨_, rfl⟩
      (And.intro (show ¬ sqP ((ofP (deN 48 ((maskL l).take 48))) * (ofP (deN 48 ((maskL l).take 48))) * (ofP (deN 48 ((maskL l).take 48))) + ofP (4 % 18446744073709551616)) from hq)
      (And.intro (show (((ofL ((maskL l).drop 48)).size : Nat) : Int) = ((0 : Nat) : Int) from by rw [drop_size, hL])
      (And.intro (show (0 : Int) ≤ 48 ∧ (48 : Int) ≤ (ofL (maskL l)).size from ⟨by decide, by rw [mask_size, hL]; decide⟩)
      (And.intro (show ((maskL l).take 48).length = 48 ∧ deN 48 ((maskL l).take 48) < 4002409555221667393417789825735904156556882819939007885332058136124031650490837864442687629129015664037894272559787 from ⟨by simp only [List.length_take, List.length_drop, mask_length, hL]; rfl, h⟩)
      (And.intro (show (0 : Int) ≤ 48 ∧ (48 : Int) ≤ (ofL (maskL l)).size from ⟨by decide, by rw [mask_size, hL]; decide⟩)
      (And.intro (show (((ofL (maskL l)).size : Nat) : Int) = ((48 : Nat) : Int) from by rw [mask_size, hL])
      (And.intro (show l.length = 48 ∧ top3 l = 4 from ⟨hL, ht⟩) trivial)))))))
theorem get1_s4g (l : List UInt8) (hL : l.length = 48) (ht : top3 l = 4) (h : nX l < 4002409555221667393417789825735904156556882819939007885332058136124031650490837864442687629129015664037894272559787) (hq : sqP ((ofP (deN 48 ((maskL l).take 48))) * (ofP (deN 48 ((maskL l).take 48))) * (ofP (deN 48 ((maskL l).take 48))) + ofP (4 % 18446744073709551616))) (hg : sml1 ((ofP (deN 48 ((maskL l).take 48))).val, (lowP (rtP ((ofP (deN 48 ((maskL l).take 48))) * (ofP (deN 48 ((maskL l).take 48))) * (ofP (deN 48 ((maskL l).take 48))) + ofP (4 % 18446744073709551616)))).val, false) ∧ may1 ((ofP (deN 48 ((maskL l).take 48))).val, (lowP (rtP ((ofP (deN 48 ((maskL l).take 48))) * (ofP (deN 48 ((maskL l).take 48))) * (ofP (deN 48 ((maskL l).take 48))) + ofP (4 % 18446744073709551616)))).val, false) ∧ ¬ grp1 ((ofP (deN 48 ((maskL l).take 48))).val, (lowP (rtP ((ofP (deN 48 ((maskL l).take 48))) * (ofP (deN 48 ((maskL l).take 48))) * (ofP (deN 48 ((maskL l).take 48))) + ofP (4 % 18446744073709551616)))).val, false)) : Gives Try.prog 7 [.t (.v (.string (ofL l)))] (.tp [.ag [.c (.int .u64 0), .c (.int .u64 0), .c (.int .u64 0), .c (.int .u64 0), .c (.int .u64 0), .c (.int .u64 0), .c (.int .u64 0), .c (.int .u64 0), .c (.int .u64 0), .c (.int .u64 0), .c (.int .u64 0), .c (.int .u64 0), .c (.bool false)], .v (.int .i64 31)]) :=
  fn_gives_at (P := Try.prog) (X := rulesX _) (env := [eHd48, efgetP, eInPq, eTimesP, ePlusP, eSmP, eRootP, eNegP, eOutP, eRig1, eGrp1]) ⟨eHd48_ok, efgetP_ok, eInPq_ok, eTimesP_ok, ePlusP_ok, eSmP_ok, eRootP_ok, eNegP_ok, eOutP_ok, eRig1_ok, eGrp1_ok, trivial⟩ Try.func7 2 (oL [(3, wO 3), (29, { ch := 1, hi := fun _ => 48 }), (36, rO 5 0), (37, wO 1), (45, rO 5 0), (57, { ch := 1, hi := fun _ => 0 }), (92, wO 0), (109, wO 0), (113, wO 1)]) (by kernel_rfl) ⟨_, rfl⟩
      (And.intro (show sml1 ((ofP (deN 48 ((maskL l).take 48))).val, (lowP (rtP ((ofP (deN 48 ((maskL l).take 48))) * (ofP (deN 48 ((maskL l).take 48))) * (ofP (deN 48 ((maskL l).take 48))) + ofP (4 % 18446744073709551616)))).val, false) ∧ may1 ((ofP (deN 48 ((maskL l).take 48))).val, (lowP (rtP ((ofP (deN 48 ((maskL l).take 48))) * (ofP (deN 48 ((maskL l).take 48))) * (ofP (deN 48 ((maskL l).take 48))) + ofP (4 % 18446744073709551616)))).val, false) ∧ ¬ grp1 ((ofP (deN 48 ((maskL l).take 48))).val, (lowP (rtP ((ofP (deN 48 ((maskL l).take 48))) * (ofP (deN 48 ((maskL l).take 48))) * (ofP (deN 48 ((maskL l).take 48))) + ofP (4 % 18446744073709551616)))).val, false) from hg)
      (And.intro (show sml1 ((ofP (deN 48 ((maskL l).take 48))).val, (lowP (rtP ((ofP (deN 48 ((maskL l).take 48))) * (ofP (deN 48 ((maskL l).take 48))) * (ofP (deN 48 ((maskL l).take 48))) + ofP (4 % 18446744073709551616)))).val, false) ∧ may1 ((ofP (deN 48 ((maskL l).take 48))).val, (lowP (rtP ((ofP (deN 48 ((maskL l).take 48))) * (ofP (deN 48 ((maskL l).take 48))) * (ofP (deN 48 ((maskL l).take 48))) + ofP (4 % 18446744073709551616)))).val, false) from ⟨hg.1, hg.2.1⟩)
      (And.intro (show sqP ((ofP (deN 48 ((maskL l).take 48))) * (ofP (deN 48 ((maskL l).take 48))) * (ofP (deN 48 ((maskL l).take 48))) + ofP (4 % 18446744073709551616)) from hq)
      (And.intro (show (((ofL ((maskL l).drop 48)).size : Nat) : Int) = ((0 : Nat) : Int) from by rw [drop_size, hL])
      (And.intro (show (0 : Int) ≤ 48 ∧ (48 : Int) ≤ (ofL (maskL l)).size from ⟨by decide, by rw [mask_size, hL]; decide⟩)
      (And.intro (show ((maskL l).take 48).length = 48 ∧ deN 48 ((maskL l).take 48) < 4002409555221667393417789825735904156556882819939007885332058136124031650490837864442687629129015664037894272559787 from ⟨by simp only [List.length_take, List.length_drop, mask_length, hL]; rfl, h⟩)
      (And.intro (show (0 : Int) ≤ 48 ∧ (48 : Int) ≤ (ofL (maskL l)).size from ⟨by decide, by rw [mask_size, hL]; decide⟩)
      (And.intro (show (((ofL (maskL l)).size : Nat) : Int) = ((48 : Nat) : Int) from by rw [mask_size, hL])
      (And.intro (show l.length = 48 ∧ top3 l = 4 from ⟨hL, ht⟩) trivial)))))))))
theorem get1_s4ok (l : List UInt8) (hL : l.length = 48) (ht : top3 l = 4) (h : nX l < 4002409555221667393417789825735904156556882819939007885332058136124031650490837864442687629129015664037894272559787) (hq : sqP ((ofP (deN 48 ((maskL l).take 48))) * (ofP (deN 48 ((maskL l).take 48))) * (ofP (deN 48 ((maskL l).take 48))) + ofP (4 % 18446744073709551616))) (hg : sml1 ((ofP (deN 48 ((maskL l).take 48))).val, (lowP (rtP ((ofP (deN 48 ((maskL l).take 48))) * (ofP (deN 48 ((maskL l).take 48))) * (ofP (deN 48 ((maskL l).take 48))) + ofP (4 % 18446744073709551616)))).val, false) ∧ may1 ((ofP (deN 48 ((maskL l).take 48))).val, (lowP (rtP ((ofP (deN 48 ((maskL l).take 48))) * (ofP (deN 48 ((maskL l).take 48))) * (ofP (deN 48 ((maskL l).take 48))) + ofP (4 % 18446744073709551616)))).val, false) ∧ grp1 ((ofP (deN 48 ((maskL l).take 48))).val, (lowP (rtP ((ofP (deN 48 ((maskL l).take 48))) * (ofP (deN 48 ((maskL l).take 48))) * (ofP (deN 48 ((maskL l).take 48))) + ofP (4 % 18446744073709551616)))).val, false)) : Gives Try.prog 7 [.t (.v (.string (ofL l)))] (.tp [.ag [.q (ofP (deN 48 ((maskL l).take 48))), .q (lowP (rtP ((ofP (deN 48 ((maskL l).take 48))) * (ofP (deN 48 ((maskL l).take 48))) * (ofP (deN 48 ((maskL l).take 48))) + ofP (4 % 18446744073709551616)))), .c (.bool false)], .v (.int .i64 0)]) :=
  fn_gives_at (P := Try.prog) (X := rulesX _) (env := [eHd48, efgetP, eInPq, eTimesP, ePlusP, eSmP, eRootP, eNegP, eOutP, eRig1, eGrp1]) ⟨eHd48_ok, efgetP_ok, eInPq_ok, eTimesP_ok, ePlusP_ok, eSmP_ok, eRootP_ok, eNegP_ok, eOutP_ok, eRig1_ok, eGrp1_ok, trivial⟩ Try.func7 2 (oL [(3, wO 3), (29, { ch := 1, hi := fun _ => 48 }), (36, rO 5 0), (37, wO 1), (45, rO 5 0), (57, { ch := 1, hi := fun _ => 0 }), (92, wO 0), (109, wO 0), (113, wO 0)]) (by kernel_rfl) ⟨_, rfl⟩
      (And.intro (show sml1 ((ofP (deN 48 ((maskL l).take 48))).val, (lowP (rtP ((ofP (deN 48 ((maskL l).take 48))) * (ofP (deN 48 ((maskL l).take 48))) * (ofP (deN 48 ((maskL l).take 48))) + ofP (4 % 18446744073709551616)))).val, false) ∧ may1 ((ofP (deN 48 ((maskL l).take 48))).val, (lowP (rtP ((ofP (deN 48 ((maskL l).take 48))) * (ofP (deN 48 ((maskL l).take 48))) * (ofP (deN 48 ((maskL l).take 48))) + ofP (4 % 18446744073709551616)))).val, false) ∧ grp1 ((ofP (deN 48 ((maskL l).take 48))).val, (lowP (rtP ((ofP (deN 48 ((maskL l).take 48))) * (ofP (deN 48 ((maskL l).take 48))) * (ofP (deN 48 ((maskL l).take 48))) + ofP (4 % 18446744073709551616)))).val, false) from hg)
      (And.intro (show sml1 ((ofP (deN 48 ((maskL l).take 48))).val, (lowP (rtP ((ofP (deN 48 ((maskL l).take 48))) * (ofP (deN 48 ((maskL l).take 48))) * (ofP (deN 48 ((maskL l).take 48))) + ofP (4 % 18446744073709551616)))).val, false) ∧ may1 ((ofP (deN 48 ((maskL l).take 48))).val, (lowP (rtP ((ofP (deN 48 ((maskL l).take 48))) * (ofP (deN 48 ((maskL l).take 48))) * (ofP (deN 48 ((maskL l).take 48))) + ofP (4 % 18446744073709551616)))).val, false) from ⟨hg.1, hg.2.1⟩)
      (And.intro (show sqP ((ofP (deN 48 ((maskL l).take 48))) * (ofP (deN 48 ((maskL l).take 48))) * (ofP (deN 48 ((maskL l).take 48))) + ofP (4 % 18446744073709551616)) from hq)
      (And.intro (show (((ofL ((maskL l).drop 48)).size : Nat) : Int) = ((0 : Nat) : Int) from by rw [drop_size, hL])
      (And.intro (show (0 : Int) ≤ 48 ∧ (48 : Int) ≤ (ofL (maskL l)).size from ⟨by decide, by rw [mask_size, hL]; decide⟩)
      (And.intro (show ((maskL l).take 48).length = 48 ∧ deN 48 ((maskL l).take 48) < 4002409555221667393417789825735904156556882819939007885332058136124031650490837864442687629129015664037894272559787 from ⟨by simp only [List.length_take, List.length_drop, mask_length, hL]; rfl, h⟩)
      (And.intro (show (0 : Int) ≤ 48 ∧ (48 : Int) ≤ (ofL (maskL l)).size from ⟨by decide, by rw [mask_size, hL]; decide⟩)
      (And.intro (show (((ofL (maskL l)).size : Nat) : Int) = ((48 : Nat) : Int) from by rw [mask_size, hL])
      (And.intro (show l.length = 48 ∧ top3 l = 4 from ⟨hL, ht⟩) trivial)))))))))
theorem get1_s5r (l : List UInt8) (hL : l.length = 48) (ht : top3 l = 5) (h : 4002409555221667393417789825735904156556882819939007885332058136124031650490837864442687629129015664037894272559787 ≤ nX l) : Gives Try.prog 7 [.t (.v (.string (ofL l)))] (.tp [.ag [.c (.int .u64 0), .c (.int .u64 0), .c (.int .u64 0), .c (.int .u64 0), .c (.int .u64 0), .c (.int .u64 0), .c (.int .u64 0), .c (.int .u64 0), .c (.int .u64 0), .c (.int .u64 0), .c (.int .u64 0), .c (.int .u64 0), .c (.bool false)], .v (.int .i64 20)]) :=
  fn_gives_at (P := Try.prog) (X := rulesX _) (env := [eHd48, efgetP, eInPq, eTimesP, ePlusP, eSmP, eRootP, eNegP, eOutP, eRig1, eGrp1]) ⟨eHd48_ok, efgetP_ok, eInPq_ok, eTimesP_ok, ePlusP_ok, eSmP_ok, eRootP_ok, eNegP_ok, eOutP_ok, eRig1_ok, eGrp1_ok, trivial⟩ Try.func7 2 (oL [(3, wO 4), (29, { ch := 1, hi := fun _ => 48 }), (36, rO 5 0), (37, wO 2), (45, rO 5 0), (57, { ch := 1, hi := fun _ => 0 })]) (by kernel_rfl) ⟨_, rfl⟩
      (And.intro (show (((ofL ((maskL l).drop 48)).size : Nat) : Int) = ((0 : Nat) : Int) from by rw [drop_size, hL])
      (And.intro (show (0 : Int) ≤ 48 ∧ (48 : Int) ≤ (ofL (maskL l)).size from ⟨by decide, by rw [mask_size, hL]; decide⟩)
      (And.intro (show ((maskL l).take 48).length = 48 ∧ 4002409555221667393417789825735904156556882819939007885332058136124031650490837864442687629129015664037894272559787 ≤ deN 48 ((maskL l).take 48) from ⟨by simp only [List.length_take, List.length_drop, mask_length, hL]; rfl, h⟩)
      (And.intro (show (0 : Int) ≤ 48 ∧ (48 : Int) ≤ (ofL (maskL l)).size from ⟨by decide, by rw [mask_size, hL]; decide⟩)
      (And.intro (show (((ofL (maskL l)).size : Nat) : Int) = ((48 : Nat) : Int) from by rw [mask_size, hL])
      (And.intro (show l.length = 48 ∧ top3 l = 5 from ⟨hL, ht⟩) trivial))))))
theorem get1_s5n (l : List UInt8) (hL : l.length = 48) (ht : top3 l = 5) (h : nX l < 4002409555221667393417789825735904156556882819939007885332058136124031650490837864442687629129015664037894272559787) (hq : ¬ sqP ((ofP (deN 48 ((maskL l).take 48))) * (ofP (deN 48 ((maskL l).take 48))) * (ofP (deN 48 ((maskL l).take 48))) + ofP (4 % 18446744073709551616))) : Gives Try.prog 7 [.t (.v (.string (ofL l)))] (.tp [.ag [.c (.int .u64 0), .c (.int .u64 0), .c (.int .u64 0), .c (.int .u64 0), .c (.int .u64 0), .c (.int .u64 0), .c (.int .u64 0), .c (.int .u64 0), .c (.int .u64 0), .c (.int .u64 0), .c (.int .u64 0), .c (.int .u64 0), .c (.bool false)], .v (.int .i64 30)]) :=
  fn_gives_at (P := Try.prog) (X := rulesX _) (env := [eHd48, efgetP, eInPq, eTimesP, ePlusP, eSmP, eRootP, eNegP, eOutP, eRig1, eGrp1]) ⟨eHd48_ok, efgetP_ok, eInPq_ok, eTimesP_ok, ePlusP_ok, eSmP_ok, eRootP_ok, eNegP_ok, eOutP_ok, eRig1_ok, eGrp1_ok, trivial⟩ Try.func7 2 (oL [(3, wO 4), (29, { ch := 1, hi := fun _ => 48 }), (36, rO 5 0), (37, wO 1), (45, rO 5 0), (57, { ch := 1, hi := fun _ => 0 }), (92, wO 1)]) (by kernel_rfl) ⟨_, rfl⟩
      (And.intro (show ¬ sqP ((ofP (deN 48 ((maskL l).take 48))) * (ofP (deN 48 ((maskL l).take 48))) * (ofP (deN 48 ((maskL l).take 48))) + ofP (4 % 18446744073709551616)) from hq)
      (And.intro (show (((ofL ((maskL l).drop 48)).size : Nat) : Int) = ((0 : Nat) : Int) from by rw [drop_size, hL])
      (And.intro (show (0 : Int) ≤ 48 ∧ (48 : Int) ≤ (ofL (maskL l)).size from ⟨by decide, by rw [mask_size, hL]; decide⟩)
      (And.intro (show ((maskL l).take 48).length = 48 ∧ deN 48 ((maskL l).take 48) < 4002409555221667393417789825735904156556882819939007885332058136124031650490837864442687629129015664037894272559787 from ⟨by simp only [List.length_take, List.length_drop, mask_length, hL]; rfl, h⟩)
      (And.intro (show (0 : Int) ≤ 48 ∧ (48 : Int) ≤ (ofL (maskL l)).size from ⟨by decide, by rw [mask_size, hL]; decide⟩)
      (And.intro (show (((ofL (maskL l)).size : Nat) : Int) = ((48 : Nat) : Int) from by rw [mask_size, hL])
      (And.intro (show l.length = 48 ∧ top3 l = 5 from ⟨hL, ht⟩) trivial)))))))
theorem get1_s5g (l : List UInt8) (hL : l.length = 48) (ht : top3 l = 5) (h : nX l < 4002409555221667393417789825735904156556882819939007885332058136124031650490837864442687629129015664037894272559787) (hq : sqP ((ofP (deN 48 ((maskL l).take 48))) * (ofP (deN 48 ((maskL l).take 48))) * (ofP (deN 48 ((maskL l).take 48))) + ofP (4 % 18446744073709551616))) (hg : sml1 ((ofP (deN 48 ((maskL l).take 48))).val, (-(lowP (rtP ((ofP (deN 48 ((maskL l).take 48))) * (ofP (deN 48 ((maskL l).take 48))) * (ofP (deN 48 ((maskL l).take 48))) + ofP (4 % 18446744073709551616))))).val, false) ∧ may1 ((ofP (deN 48 ((maskL l).take 48))).val, (-(lowP (rtP ((ofP (deN 48 ((maskL l).take 48))) * (ofP (deN 48 ((maskL l).take 48))) * (ofP (deN 48 ((maskL l).take 48))) + ofP (4 % 18446744073709551616))))).val, false) ∧ ¬ grp1 ((ofP (deN 48 ((maskL l).take 48))).val, (-(lowP (rtP ((ofP (deN 48 ((maskL l).take 48))) * (ofP (deN 48 ((maskL l).take 48))) * (ofP (deN 48 ((maskL l).take 48))) + ofP (4 % 18446744073709551616))))).val, false)) : Gives Try.prog 7 [.t (.v (.string (ofL l)))] (.tp [.ag [.c (.int .u64 0), .c (.int .u64 0), .c (.int .u64 0), .c (.int .u64 0), .c (.int .u64 0), .c (.int .u64 0), .c (.int .u64 0), .c (.int .u64 0), .c (.int .u64 0), .c (.int .u64 0), .c (.int .u64 0), .c (.int .u64 0), .c (.bool false)], .v (.int .i64 31)]) :=
  fn_gives_at (P := Try.prog) (X := rulesX _) (env := [eHd48, efgetP, eInPq, eTimesP, ePlusP, eSmP, eRootP, eNegP, eOutP, eRig1, eGrp1]) ⟨eHd48_ok, efgetP_ok, eInPq_ok, eTimesP_ok, ePlusP_ok, eSmP_ok, eRootP_ok, eNegP_ok, eOutP_ok, eRig1_ok, eGrp1_ok, trivial⟩ Try.func7 2 (oL [(3, wO 4), (29, { ch := 1, hi := fun _ => 48 }), (36, rO 5 0), (37, wO 1), (45, rO 5 0), (57, { ch := 1, hi := fun _ => 0 }), (92, wO 0), (112, wO 0), (116, wO 1)]) (by kernel_rfl) ⟨_, rfl⟩
      (And.intro (show sml1 ((ofP (deN 48 ((maskL l).take 48))).val, (-(lowP (rtP ((ofP (deN 48 ((maskL l).take 48))) * (ofP (deN 48 ((maskL l).take 48))) * (ofP (deN 48 ((maskL l).take 48))) + ofP (4 % 18446744073709551616))))).val, false) ∧ may1 ((ofP (deN 48 ((maskL l).take 48))).val, (-(lowP (rtP ((ofP (deN 48 ((maskL l).take 48))) * (ofP (deN 48 ((maskL l).take 48))) * (ofP (deN 48 ((maskL l).take 48))) + ofP (4 % 18446744073709551616))))).val, false) ∧ ¬ grp1 ((ofP (deN 48 ((maskL l).take 48))).val, (-(lowP (rtP ((ofP (deN 48 ((maskL l).take 48))) * (ofP (deN 48 ((maskL l).take 48))) * (ofP (deN 48 ((maskL l).take 48))) + ofP (4 % 18446744073709551616))))).val, false) from hg)
      (And.intro (show sml1 ((ofP (deN 48 ((maskL l).take 48))).val, (-(lowP (rtP ((ofP (deN 48 ((maskL l).take 48))) * (ofP (deN 48 ((maskL l).take 48))) * (ofP (deN 48 ((maskL l).take 48))) + ofP (4 % 18446744073709551616))))).val, false) ∧ may1 ((ofP (deN 48 ((maskL l).take 48))).val, (-(lowP (rtP ((ofP (deN 48 ((maskL l).take 48))) * (ofP (deN 48 ((maskL l).take 48))) * (ofP (deN 48 ((maskL l).take 48))) + ofP (4 % 18446744073709551616))))).val, false) from ⟨hg.1, hg.2.1⟩)
      (And.intro (show sqP ((ofP (deN 48 ((maskL l).take 48))) * (ofP (deN 48 ((maskL l).take 48))) * (ofP (deN 48 ((maskL l).take 48))) + ofP (4 % 18446744073709551616)) from hq)
      (And.intro (show (((ofL ((maskL l).drop 48)).size : Nat) : Int) = ((0 : Nat) : Int) from by rw [drop_size, hL])
      (And.intro (show (0 : Int) ≤ 48 ∧ (48 : Int) ≤ (ofL (maskL l)).size from ⟨by decide, by rw [mask_size, hL]; decide⟩)
      (And.intro (show ((maskL l).take 48).length = 48 ∧ deN 48 ((maskL l).take 48) < 4002409555221667393417789825735904156556882819939007885332058136124031650490837864442687629129015664037894272559787 from ⟨by simp only [List.length_take, List.length_drop, mask_length, hL]; rfl, h⟩)
      (And.intro (show (0 : Int) ≤ 48 ∧ (48 : Int) ≤ (ofL (maskL l)).size from ⟨by decide, by rw [mask_size, hL]; decide⟩)
      (And.intro (show (((ofL (maskL l)).size : Nat) : Int) = ((48 : Nat) : Int) from by rw [mask_size, hL])
      (And.intro (show l.length = 48 ∧ top3 l = 5 from ⟨hL, ht⟩) trivial)))))))))
theorem get1_s5ok (l : List UInt8) (hL : l.length = 48) (ht : top3 l = 5) (h : nX l < 4002409555221667393417789825735904156556882819939007885332058136124031650490837864442687629129015664037894272559787) (hq : sqP ((ofP (deN 48 ((maskL l).take 48))) * (ofP (deN 48 ((maskL l).take 48))) * (ofP (deN 48 ((maskL l).take 48))) + ofP (4 % 18446744073709551616))) (hg : sml1 ((ofP (deN 48 ((maskL l).take 48))).val, (-(lowP (rtP ((ofP (deN 48 ((maskL l).take 48))) * (ofP (deN 48 ((maskL l).take 48))) * (ofP (deN 48 ((maskL l).take 48))) + ofP (4 % 18446744073709551616))))).val, false) ∧ may1 ((ofP (deN 48 ((maskL l).take 48))).val, (-(lowP (rtP ((ofP (deN 48 ((maskL l).take 48))) * (ofP (deN 48 ((maskL l).take 48))) * (ofP (deN 48 ((maskL l).take 48))) + ofP (4 % 18446744073709551616))))).val, false) ∧ grp1 ((ofP (deN 48 ((maskL l).take 48))).val, (-(lowP (rtP ((ofP (deN 48 ((maskL l).take 48))) * (ofP (deN 48 ((maskL l).take 48))) * (ofP (deN 48 ((maskL l).take 48))) + ofP (4 % 18446744073709551616))))).val, false)) : Gives Try.prog 7 [.t (.v (.string (ofL l)))] (.tp [.ag [.q (ofP (deN 48 ((maskL l).take 48))), .q (-(lowP (rtP ((ofP (deN 48 ((maskL l).take 48))) * (ofP (deN 48 ((maskL l).take 48))) * (ofP (deN 48 ((maskL l).take 48))) + ofP (4 % 18446744073709551616))))), .c (.bool false)], .v (.int .i64 0)]) :=
  fn_gives_at (P := Try.prog) (X := rulesX _) (env := [eHd48, efgetP, eInPq, eTimesP, ePlusP, eSmP, eRootP, eNegP, eOutP, eRig1, eGrp1]) ⟨eHd48_ok, efgetP_ok, eInPq_ok, eTimesP_ok, ePlusP_ok, eSmP_ok, eRootP_ok, eNegP_ok, eOutP_ok, eRig1_ok, eGrp1_ok, trivial⟩ Try.func7 2 (oL [(3, wO 4), (29, { ch := 1, hi := fun _ => 48 }), (36, rO 5 0), (37, wO 1), (45, rO 5 0), (57, { ch := 1, hi := fun _ => 0 }), (92, wO 0), (112, wO 0), (116, wO 0)]) (by kernel_rfl) ⟨_, rfl⟩
      (And.intro (show sml1 ((ofP (deN 48 ((maskL l).take 48))).val, (-(lowP (rtP ((ofP (deN 48 ((maskL l).take 48))) * (ofP (deN 48 ((maskL l).take 48))) * (ofP (deN 48 ((maskL l).take 48))) + ofP (4 % 18446744073709551616))))).val, false) ∧ may1 ((ofP (deN 48 ((maskL l).take 48))).val, (-(lowP (rtP ((ofP (deN 48 ((maskL l).take 48))) * (ofP (deN 48 ((maskL l).take 48))) * (ofP (deN 48 ((maskL l).take 48))) + ofP (4 % 18446744073709551616))))).val, false) ∧ grp1 ((ofP (deN 48 ((maskL l).take 48))).val, (-(lowP (rtP ((ofP (deN 48 ((maskL l).take 48))) * (ofP (deN 48 ((maskL l).take 48))) * (ofP (deN 48 ((maskL l).take 48))) + ofP (4 % 18446744073709551616))))).val, false) from hg)
      (And.intro (show sml1 ((ofP (deN 48 ((maskL l).take 48))).val, (-(lowP (rtP ((ofP (deN 48 ((maskL l).take 48))) * (ofP (deN 48 ((maskL l).take 48))) * (ofP (deN 48 ((maskL l).take 48))) + ofP (4 % 18446744073709551616))))).val, false) ∧ may1 ((ofP (deN 48 ((maskL l).take 48))).val, (-(lowP (rtP ((ofP (deN 48 ((maskL l).take 48))) * (ofP (deN 48 ((maskL l).take 48))) * (ofP (deN 48 ((maskL l).take 48))) + ofP (4 % 18446744073709551616))))).val, false) from ⟨hg.1, hg.2.1⟩)
      (And.intro (show sqP ((ofP (deN 48 ((maskL l).take 48))) * (ofP (deN 48 ((maskL l).take 48))) * (ofP (deN 48 ((maskL l).take 48))) + ofP (4 % 18446744073709551616)) from hq)
      (And.intro (show (((ofL ((maskL l).drop 48)).size : Nat) : Int) = ((0 : Nat) : Int) from by rw [drop_size, hL])
      (And.intro (show (0 : Int) ≤ 48 ∧ (48 : Int) ≤ (ofL (maskL l)).size from ⟨by decide, by rw [mask_size, hL]; decide⟩)
      (And.intro (show ((maskL l).take 48).length = 48 ∧ deN 48 ((maskL l).take 48) < 4002409555221667393417789825735904156556882819939007885332058136124031650490837864442687629129015664037894272559787 from ⟨by simp only [List.length_take, List.length_drop, mask_length, hL]; rfl, h⟩)
      (And.intro (show (0 : Int) ≤ 48 ∧ (48 : Int) ≤ (ofL (maskL l)).size from ⟨by decide, by rw [mask_size, hL]; decide⟩)
      (And.intro (show (((ofL (maskL l)).size : Nat) : Int) = ((48 : Nat) : Int) from by rw [mask_size, hL])
      (And.intro (show l.length = 48 ∧ top3 l = 5 from ⟨hL, ht⟩) trivial)))))))))
theorem get1_ln (l : List UInt8) (hL : l.length = 96) (ht : top3 l = 0) (h1 : nX l < 4002409555221667393417789825735904156556882819939007885332058136124031650490837864442687629129015664037894272559787) (h2 : nY l < 4002409555221667393417789825735904156556882819939007885332058136124031650490837864442687629129015664037894272559787) (hr : sml1 ((ofP (deN 48 ((maskL l).take 48))).val, (ofP (deN 48 (((maskL l).drop 48).take 48))).val, false) ∧ ¬ may1 ((ofP (deN 48 ((maskL l).take 48))).val, (ofP (deN 48 (((maskL l).drop 48).take 48))).val, false)) : Gives Try.prog 7 [.t (.v (.string (ofL l)))] (.tp [.ag [.c (.int .u64 0), .c (.int .u64 0), .c (.int .u64 0), .c (.int .u64 0), .c (.int .u64 0), .c (.int .u64 0), .c (.int .u64 0), .c (.int .u64 0), .c (.int .u64 0), .c (.int .u64 0), .c (.int .u64 0), .c (.int .u64 0), .c (.bool false)], .v (.int .i64 30)]) :=
  fn_gives_at (P := Try.prog) (X := rulesX _) (env := [eHd48, efgetP, eInPq, eTimesP, ePlusP, eSmP, eRootP, eNegP, eOutP, eRig1, eGrp1]) ⟨eHd48_ok, efgetP_ok, eInPq_ok, eTimesP_ok, ePlusP_ok, eSmP_ok, eRootP_ok, eNegP_ok, eOutP_ok, eRig1_ok, eGrp1_ok, trivial⟩ Try.func7 2 (oL [(3, wO 5), (29, { ch := 1, hi := fun _ => 96 }), (36, rO 5 0), (37, wO 1), (45, rO 5 0), (57, { ch := 1, hi := fun _ => 48 }), (64, rO 5 0), (65, wO 1), (73, rO 5 0), (85, { ch := 1, hi := fun _ => 0 }), (114, wO 1)]) (by kernel_rfl) ⟨_, rfl⟩
      (And.intro (show sml1 ((ofP (deN 48 ((maskL l).take 48))).val, (ofP (deN 48 (((maskL l).drop 48).take 48))).val, false) ∧ ¬ may1 ((ofP (deN 48 ((maskL l).take 48))).val, (ofP (deN 48 (((maskL l).drop 48).take 48))).val, false) from hr)
      (And.intro (show (((ofL (((maskL l).drop 48).drop 48)).size : Nat) : Int) = ((0 : Nat) : Int) from by rw [drop2_size, hL])
      (And.intro (show (0 : Int) ≤ 48 ∧ (48 : Int) ≤ (ofL ((maskL l).drop 48)).size from ⟨by decide, by rw [drop_size, hL]; decide⟩)
      (And.intro (show (((maskL l).drop 48).take 48).length = 48 ∧ deN 48 (((maskL l).drop 48).take 48) < 4002409555221667393417789825735904156556882819939007885332058136124031650490837864442687629129015664037894272559787 from ⟨by simp only [List.length_take, List.length_drop, mask_length, hL]; rfl, h2⟩)
      (And.intro (show (0 : Int) ≤ 48 ∧ (48 : Int) ≤ (ofL ((maskL l).drop 48)).size from ⟨by decide, by rw [drop_size, hL]; decide⟩)
      (And.intro (show (((ofL ((maskL l).drop 48)).size : Nat) : Int) = ((48 : Nat) : Int) from by rw [drop_size, hL])
      (And.intro (show (0 : Int) ≤ 48 ∧ (48 : Int) ≤ (ofL (maskL l)).size from ⟨by decide, by rw [mask_size, hL]; decide⟩)
      (And.intro (show ((maskL l).take 48).length = 48 ∧ deN 48 ((maskL l).take 48) < 4002409555221667393417789825735904156556882819939007885332058136124031650490837864442687629129015664037894272559787 from ⟨by simp only [List.length_take, List.length_drop, mask_length, hL]; rfl, h1⟩)
      (And.intro (show (0 : Int) ≤ 48 ∧ (48 : Int) ≤ (ofL (maskL l)).size from ⟨by decide, by rw [mask_size, hL]; decide⟩)
      (And.intro (show (((ofL (maskL l)).size : Nat) : Int) = ((96 : Nat) : Int) from by rw [mask_size, hL])
      (And.intro (show l.length = 96 ∧ top3 l = 0 from ⟨hL, ht⟩) trivial)))))))))))
theorem get1_lg (l : List UInt8) (hL : l.length = 96) (ht : top3 l = 0) (h1 : nX l < 4002409555221667393417789825735904156556882819939007885332058136124031650490837864442687629129015664037894272559787) (h2 : nY l < 4002409555221667393417789825735904156556882819939007885332058136124031650490837864442687629129015664037894272559787) (hg : sml1 ((ofP (deN 48 ((maskL l).take 48))).val, (ofP (deN 48 (((maskL l).drop 48).take 48))).val, false) ∧ may1 ((ofP (deN 48 ((maskL l).take 48))).val, (ofP (deN 48 (((maskL l).drop 48).take 48))).val, false) ∧ ¬ grp1 ((ofP (deN 48 ((maskL l).take 48))).val, (ofP (deN 48 (((maskL l).drop 48).take 48))).val, false)) : Gives Try.prog 7 [.t (.v (.string (ofL l)))] (.tp [.ag [.c (.int .u64 0), .c (.int .u64 0), .c (.int .u64 0), .c (.int .u64 0), .c (.int .u64 0), .c (.int .u64 0), .c (.int .u64 0), .c (.int .u64 0), .c (.int .u64 0), .c (.int .u64 0), .c (.int .u64 0), .c (.int .u64 0), .c (.bool false)], .v (.int .i64 31)]) :=
  fn_gives_at (P := Try.prog) (X := rulesX _) (env := [eHd48, efgetP, eInPq, eTimesP, ePlusP, eSmP, eRootP, eNegP, eOutP, eRig1, eGrp1]) ⟨eHd48_ok, efgetP_ok, eInPq_ok, eTimesP_ok, ePlusP_ok, eSmP_ok, eRootP_ok, eNegP_ok, eOutP_ok, eRig1_ok, eGrp1_ok, trivial⟩ Try.func7 2 (oL [(3, wO 5), (29, { ch := 1, hi := fun _ => 96 }), (36, rO 5 0), (37, wO 1), (45, rO 5 0), (57, { ch := 1, hi := fun _ => 48 }), (64, rO 5 0), (65, wO 1), (73, rO 5 0), (85, { ch := 1, hi := fun _ => 0 }), (114, wO 0), (118, wO 1)]) (by kernel_rfl) ⟨_, rfl⟩
      (And.intro (show sml1 ((ofP (deN 48 ((maskL l).take 48))).val, (ofP (deN 48 (((maskL l).drop 48).take 48))).val, false) ∧ may1 ((ofP (deN 48 ((maskL l).take 48))).val, (ofP (deN 48 (((maskL l).drop 48).take 48))).val, false) ∧ ¬ grp1 ((ofP (deN 48 ((maskL l).take 48))).val, (ofP (deN 48 (((maskL l).drop 48).take 48))).val, false) from hg)
      (And.intro (show sml1 ((ofP (deN 48 ((maskL l).take 48))).val, (ofP (deN 48 (((maskL l).drop 48).take 48))).val, false) ∧ may1 ((ofP (deN 48 ((maskL l).take 48))).val, (ofP (deN 48 (((maskL l).drop 48).take 48))).val, false) from ⟨hg.1, hg.2.1⟩)
      (And.intro (show (((ofL (((maskL l).drop 48).drop 48)).size : Nat) : Int) = ((0 : Nat) : Int) from by rw [drop2_size, hL])
      (And.intro (show (0 : Int) ≤ 48 ∧ (48 : Int) ≤ (ofL ((maskL l).drop 48)).size from ⟨by decide, by rw [drop_size, hL]; decide⟩)
      (And.intro (show (((maskL l).drop 48).take 48).length = 48 ∧ deN 48 (((maskL l).drop 48).take 48) < 4002409555221667393417789825735904156556882819939007885332058136124031650490837864442687629129015664037894272559787 from ⟨by simp only [List.length_take, List.length_drop, mask_length, hL]; rfl, h2⟩)
      (And.intro (show (0 : Int) ≤ 48 ∧ (48 : Int) ≤ (ofL ((maskL l).drop 48)).size from ⟨by decide, by rw [drop_size, hL]; decide⟩)
      (And.intro (show (((ofL ((maskL l).drop 48)).size : Nat) : Int) = ((48 : Nat) : Int) from by rw [drop_size, hL])
      (And.intro (show (0 : Int) ≤ 48 ∧ (48 : Int) ≤ (ofL (maskL l)).size from ⟨by decide, by rw [mask_size, hL]; decide⟩)
      (And.intro (show ((maskL l).take 48).length = 48 ∧ deN 48 ((maskL l).take 48) < 4002409555221667393417789825735904156556882819939007885332058136124031650490837864442687629129015664037894272559787 from ⟨by simp only [List.length_take, List.length_drop, mask_length, hL]; rfl, h1⟩)
      (And.intro (show (0 : Int) ≤ 48 ∧ (48 : Int) ≤ (ofL (maskL l)).size from ⟨by decide, by rw [mask_size, hL]; decide⟩)
      (And.intro (show (((ofL (maskL l)).size : Nat) : Int) = ((96 : Nat) : Int) from by rw [mask_size, hL])
      (And.intro (show l.length = 96 ∧ top3 l = 0 from ⟨hL, ht⟩) trivial))))))))))))
theorem get1_lok (l : List UInt8) (hL : l.length = 96) (ht : top3 l = 0) (h1 : nX l < 4002409555221667393417789825735904156556882819939007885332058136124031650490837864442687629129015664037894272559787) (h2 : nY l < 4002409555221667393417789825735904156556882819939007885332058136124031650490837864442687629129015664037894272559787) (hg : sml1 ((ofP (deN 48 ((maskL l).take 48))).val, (ofP (deN 48 (((maskL l).drop 48).take 48))).val, false) ∧ may1 ((ofP (deN 48 ((maskL l).take 48))).val, (ofP (deN 48 (((maskL l).drop 48).take 48))).val, false) ∧ grp1 ((ofP (deN 48 ((maskL l).take 48))).val, (ofP (deN 48 (((maskL l).drop 48).take 48))).val, false)) : Gives Try.prog 7 [.t (.v (.string (ofL l)))] (.tp [.ag [.q (ofP (deN 48 ((maskL l).take 48))), .q (ofP (deN 48 (((maskL l).drop 48).take 48))), .c (.bool false)], .v (.int .i64 0)]) :=
  fn_gives_at (P := Try.prog) (X := rulesX _) (env := [eHd48, efgetP, eInPq, eTimesP, ePlusP, eSmP, eRootP, eNegP, eOutP, eRig1, eGrp1]) ⟨eHd48_ok, efgetP_ok, eInPq_ok, eTimesP_ok, ePlusP_ok, eSmP_ok, eRootP_ok, eNegP_ok, eOutP_ok, eRig1_ok, eGrp1_ok, trivial⟩ Try.func7 2 (oL [(3, wO 5), (29, { ch := 1, hi := fun _ => 96 }), (36, rO 5 0), (37, wO 1), (45, rO 5 0), (57, { ch := 1, hi := fun _ => 48 }), (64, rO 5 0), (65, wO 1), (73, rO 5 0), (85, { ch := 1, hi := fun _ => 0 }), (114, wO 0), (118, wO 0)]) (by kernel_rfl) ⟨_, rfl⟩
      (And.intro (show sml1 ((ofP (deN 48 ((maskL l).take 48))).val, (ofP (deN 48 (((maskL l).drop 48).take 48))).val, false) ∧ may1 ((ofP (deN 48 ((maskL l).take 48))).val, (ofP (deN 48 (((maskL l).drop 48).take 48))).val, false) ∧ grp1 ((ofP (deN 48 ((maskL l).take 48))).val, (ofP (deN 48 (((maskL l).drop 48).take 48))).val, false) from hg)
      (And.intro (show sml1 ((ofP (deN 48 ((maskL l).take 48))).val, (ofP (deN 48 (((maskL l).drop 48).take 48))).val, false) ∧ may1 ((ofP (deN 48 ((maskL l).take 48))).val, (ofP (deN 48 (((maskL l).drop 48).take 48))).val, false) from ⟨hg.1, hg.2.1⟩)
      (And.intro (show (((ofL (((maskL l).drop 48).drop 48)).size : Nat) : Int) = ((0 : Nat) : Int) from by rw [drop2_size, hL])
      (And.intro (show (0 : Int) ≤ 48 ∧ (48 : Int) ≤ (ofL ((maskL l).drop 48)).size from ⟨by decide, by rw [drop_size, hL]; decide⟩)
      (And.intro (show (((maskL l).drop 48).take 48).length = 48 ∧ deN 48 (((maskL l).drop 48).take 48) < 4002409555221667393417789825735904156556882819939007885332058136124031650490837864442687629129015664037894272559787 from ⟨by simp only [List.length_take, List.length_drop, mask_length, hL]; rfl, h2⟩)
      (And.intro (show (0 : Int) ≤ 48 ∧ (48 : Int) ≤ (ofL ((maskL l).drop 48)).size from ⟨by decide, by rw [drop_size, hL]; decide⟩)
      (And.intro (show (((ofL ((maskL l).drop 48)).size : Nat) : Int) = ((48 : Nat) : Int) from by rw [drop_size, hL])
      (And.intro (show (0 : Int) ≤ 48 ∧ (48 : Int) ≤ (ofL (maskL l)).size from ⟨by decide, by rw [mask_size, hL]; decide⟩)
      (And.intro (show ((maskL l).take 48).length = 48 ∧ deN 48 ((maskL l).take 48) < 4002409555221667393417789825735904156556882819939007885332058136124031650490837864442687629129015664037894272559787 from ⟨by simp only [List.length_take, List.length_drop, mask_length, hL]; rfl, h1⟩)
      (And.intro (show (0 : Int) ≤ 48 ∧ (48 : Int) ≤ (ofL (maskL l)).size from ⟨by decide, by rw [mask_size, hL]; decide⟩)
      (And.intro (show (((ofL (maskL l)).size : Nat) : Int) = ((96 : Nat) : Int) from by rw [mask_size, hL])
      (And.intro (show l.length = 96 ∧ top3 l = 0 from ⟨hL, ht⟩) trivial))))))))))))
theorem get1_l10 (l : List UInt8) (hL : l.length = 96) (ht : top3 l = 0) (h1 : nX l < 4002409555221667393417789825735904156556882819939007885332058136124031650490837864442687629129015664037894272559787) (h2 : 4002409555221667393417789825735904156556882819939007885332058136124031650490837864442687629129015664037894272559787 ≤ nY l) : Gives Try.prog 7 [.t (.v (.string (ofL l)))] (.tp [.ag [.c (.int .u64 0), .c (.int .u64 0), .c (.int .u64 0), .c (.int .u64 0), .c (.int .u64 0), .c (.int .u64 0), .c (.int .u64 0), .c (.int .u64 0), .c (.int .u64 0), .c (.int .u64 0), .c (.int .u64 0), .c (.int .u64 0), .c (.bool false)], .v (.int .i64 20)]) :=
  fn_gives_at (P := Try.prog) (X := rulesX _) (env := [eHd48, efgetP, eInPq, eTimesP, ePlusP, eSmP, eRootP, eNegP, eOutP, eRig1, eGrp1]) ⟨eHd48_ok, efgetP_ok, eInPq_ok, eTimesP_ok, ePlusP_ok, eSmP_ok, eRootP_ok, eNegP_ok, eOutP_ok, eRig1_ok, eGrp1_ok, trivial⟩ Try.func7 2 (oL [(3, wO 5), (29, { ch := 1, hi := fun _ => 96 }), (36, rO 5 0), (37, wO 1), (45, rO 5 0), (57, { ch := 1, hi := fun _ => 48 }), (64, rO 5 0), (65, wO 2), (73, rO 5 0), (85, { ch := 1, hi := fun _ => 0 })]) (by kernel_rfl) ⟨_, rfl⟩
      (And.intro (show (((ofL (((maskL l).drop 48).drop 48)).size : Nat) : Int) = ((0 : Nat) : Int) from by rw [drop2_size, hL])
      (And.intro (show (0 : Int) ≤ 48 ∧ (48 : Int) ≤ (ofL ((maskL l).drop 48)).size from ⟨by decide, by rw [drop_size, hL]; decide⟩)
      (And.intro (show (((maskL l).drop 48).take 48).length = 48 ∧ 4002409555221667393417789825735904156556882819939007885332058136124031650490837864442687629129015664037894272559787 ≤ deN 48 (((maskL l).drop 48).take 48) from ⟨by simp only [List.length_take, List.length_drop, mask_length, hL]; rfl, h2⟩)
      (And.intro (show (0 : Int) ≤ 48 ∧ (48 : Int) ≤ (ofL ((maskL l).drop 48)).size from ⟨by decide, by rw [drop_size, hL]; decide⟩)
      (And.intro (show (((ofL ((maskL l).drop 48)).size : Nat) : Int) = ((48 : Nat) : Int) from by rw [drop_size, hL])
      (And.intro (show (0 : Int) ≤ 48 ∧ (48 : Int) ≤ (ofL (maskL l)).size from ⟨by decide, by rw [mask_size, hL]; decide⟩)
      (And.intro (show ((maskL l).take 48).length = 48 ∧ deN 48 ((maskL l).take 48) < 4002409555221667393417789825735904156556882819939007885332058136124031650490837864442687629129015664037894272559787 from ⟨by simp only [List.length_take, List.length_drop, mask_length, hL]; rfl, h1⟩)
      (And.intro (show (0 : Int) ≤ 48 ∧ (48 : Int) ≤ (ofL (maskL l)).size from ⟨by decide, by rw [mask_size, hL]; decide⟩)
      (And.intro (show (((ofL (maskL l)).size : Nat) : Int) = ((96 : Nat) : Int) from by rw [mask_size, hL])
      (And.intro (show l.length = 96 ∧ top3 l = 0 from ⟨hL, ht⟩) trivial))))))))))
theorem get1_l01 (l : List UInt8) (hL : l.length = 96) (ht : top3 l = 0) (h1 : 4002409555221667393417789825735904156556882819939007885332058136124031650490837864442687629129015664037894272559787 ≤ nX l) (h2 : nY l < 4002409555221667393417789825735904156556882819939007885332058136124031650490837864442687629129015664037894272559787) : Gives Try.prog 7 [.t (.v (.string (ofL l)))] (.tp [.ag [.c (.int .u64 0), .c (.int .u64 0), .c (.int .u64 0), .c (.int .u64 0), .c (.int .u64 0), .c (.int .u64 0), .c (.int .u64 0), .c (.int .u64 0), .c (.int .u64 0), .c (.int .u64 0), .c (.int .u64 0), .c (.int .u64 0), .c (.bool false)], .v (.int .i64 20)]) :=
  fn_gives_at (P := Try.prog) (X := rulesX _) (env := [eHd48, efgetP, eInPq, eTimesP, ePlusP, eSmP, eRootP, eNegP, eOutP, eRig1, eGrp1]) ⟨eHd48_ok, efgetP_ok, eInPq_ok, eTimesP_ok, ePlusP_ok, eSmP_ok, eRootP_ok, eNegP_ok, eOutP_ok, eRig1_ok, eGrp1_ok, trivial⟩ Try.func7 2 (oL [(3, wO 5), (29, { ch := 1, hi := fun _ => 96 }), (36, rO 5 0), (37, wO 2), (45, rO 5 0), (57, { ch := 1, hi := fun _ => 48 }), (64, rO 5 0), (65, wO 1), (73, rO 5 0), (83, { ch := 1, hi := fun _ => 0 })]) (by kernel_rfl) ⟨_, rfl⟩
      (And.intro (show (((ofL (((maskL l).drop 48).drop 48)).size : Nat) : Int) = ((0 : Nat) : Int) from by rw [drop2_size, hL])
      (And.intro (show (0 : Int) ≤ 48 ∧ (48 : Int) ≤ (ofL ((maskL l).drop 48)).size from ⟨by decide, by rw [drop_size, hL]; decide⟩)
      (And.intro (show (((maskL l).drop 48).take 48).length = 48 ∧ deN 48 (((maskL l).drop 48).take 48) < 4002409555221667393417789825735904156556882819939007885332058136124031650490837864442687629129015664037894272559787 from ⟨by simp only [List.length_take, List.length_drop, mask_length, hL]; rfl, h2⟩)
      (And.intro (show (0 : Int) ≤ 48 ∧ (48 : Int) ≤ (ofL ((maskL l).drop 48)).size from ⟨by decide, by rw [drop_size, hL]; decide⟩)
      (And.intro (show (((ofL ((maskL l).drop 48)).size : Nat) : Int) = ((48 : Nat) : Int) from by rw [drop_size, hL])
      (And.intro (show (0 : Int) ≤ 48 ∧ (48 : Int) ≤ (ofL (maskL l)).size from ⟨by decide, by rw [mask_size, hL]; decide⟩)
      (And.intro (show ((maskL l).take 48).length = 48 ∧ 4002409555221667393417789825735904156556882819939007885332058136124031650490837864442687629129015664037894272559787 ≤ deN 48 ((maskL l).take 48) from ⟨by simp only [List.length_take, List.length_drop, mask_length, hL]; rfl, h1⟩)
      (And.intro (show (0 : Int) ≤ 48 ∧ (48 : Int) ≤ (ofL (maskL l)).size from ⟨by decide, by rw [mask_size, hL]; decide⟩)
      (And.intro (show (((ofL (maskL l)).size : Nat) : Int) = ((96 : Nat) : Int) from by rw [mask_size, hL])
      (And.intro (show l.length = 96 ∧ top3 l = 0 from ⟨hL, ht⟩) trivial))))))))))
theorem get1_l00 (l : List UInt8) (hL : l.length = 96) (ht : top3 l = 0) (h1 : 4002409555221667393417789825735904156556882819939007885332058136124031650490837864442687629129015664037894272559787 ≤ nX l) (h2 : 4002409555221667393417789825735904156556882819939007885332058136124031650490837864442687629129015664037894272559787 ≤ nY l) : Gives Try.prog 7 [.t (.v (.string (ofL l)))] (.tp [.ag [.c (.int .u64 0), .c (.int .u64 0), .c (.int .u64 0), .c (.int .u64 0), .c (.int .u64 0), .c (.int .u64 0), .c (.int .u64 0), .c (.int .u64 0), .c (.int .u64 0), .c (.int .u64 0), .c (.int .u64 0), .c (.int .u64 0), .c (.bool false)], .v (.int .i64 20)]) :=
  fn_gives_at (P := Try.prog) (X := rulesX _) (env := [eHd48, efgetP, eInPq, eTimesP, ePlusP, eSmP, eRootP, eNegP, eOutP, eRig1, eGrp1]) ⟨eHd48_ok, efgetP_ok, eInPq_ok, eTimesP_ok, ePlusP_ok, eSmP_ok, eRootP_ok, eNegP_ok, eOutP_ok, eRig1_ok, eGrp1_ok, trivial⟩ Try.func7 2 (oL [(3, wO 5), (29, { ch := 1, hi := fun _ => 96 }), (36, rO 5 0), (37, wO 2), (45, rO 5 0), (57, { ch := 1, hi := fun _ => 48 }), (64, rO 5 0), (65, wO 2), (73, rO 5 0), (83, { ch := 1, hi := fun _ => 0 })]) (by kernel_rfl) ⟨_, rfl⟩
      (And.intro (show (((ofL (((maskL l).drop 48).drop 48)).size : Nat) : Int) = ((0 : Nat) : Int) from by rw [drop2_size, hL])
      (And.intro (show (0 : Int) ≤ 48 ∧ (48 : Int) ≤ (ofL ((maskL l).drop 48)).size from ⟨by decide, by rw [drop_size, hL]; decide⟩)
      (And.intro (show (((maskL l).drop 48).take 48).length = 48 ∧ 4002409555221667393417789825735904156556882819939007885332058136124031650490837864442687629129015664037894272559787 ≤ deN 48 (((maskL l).drop 48).take 48) from ⟨by simp only [List.length_take, List.length_drop, mask_length, hL]; rfl, h2⟩)
      (And.intro (show (0 : Int) ≤ 48 ∧ (48 : Int) ≤ (ofL ((maskL l).drop 48)).size from ⟨by decide, by rw [drop_size, hL]; decide⟩)
      (And.intro (show (((ofL ((maskL l).drop 48)).size : Nat) : Int) = ((48 : Nat) : Int) from by rw [drop_size, hL])
      (And.intro (show (0 : Int) ≤ 48 ∧ (48 : Int) ≤ (ofL (maskL l)).size from ⟨by decide, by rw [mask_size, hL]; decide⟩)
      (And.intro (show ((maskL l).take 48).length = 48 ∧ 4002409555221667393417789825735904156556882819939007885332058136124031650490837864442687629129015664037894272559787 ≤ deN 48 ((maskL l).take 48) from ⟨by simp only [List.length_take, List.length_drop, mask_length, hL]; rfl, h1⟩)
      (And.intro (show (0 : Int) ≤ 48 ∧ (48 : Int) ≤ (ofL (maskL l)).size from ⟨by decide, by rw [mask_size, hL]; decide⟩)
      (And.intro (show (((ofL (maskL l)).size : Nat) : Int) = ((96 : Nat) : Int) from by rw [mask_size, hL])
      (And.intro (show l.length = 96 ∧ top3 l = 0 from ⟨hL, ht⟩) trivial))))))))))
def sh1 (l : List UInt8) : Prop := l.length = 48 ∧ (top3 l = 4 ∨ top3 l = 5)
def lo1 (l : List UInt8) : Prop := l.length = 96 ∧ top3 l = 0
theorem root_sq (a : Fin Pp) (hq : sqP a) : lowP (rtP a) * lowP (rtP a) = a := (low_sq _).trans hq
theorem neg_sq (a : Fin Pp) : -a * -a = a * a := by grind
theorem small_pt (x y : Fin Pp) (b : Bool) : sml1 (x.val, y.val, b) := ⟨small_q x, small_q y⟩
theorem may_root (x : Fin Pp) (h : Bool) (hq : sqP (rhs1 x)) : may1 (x.val, (sy1 (rhs1 x) h).val, false) := by
  show is1 x.val ∧ is1 (sy1 (rhs1 x) h).val ∧ ofP (sy1 (rhs1 x) h).val * ofP (sy1 (rhs1 x) h).val = rhs1 (ofP x.val)
  refine ⟨x.isLt, (sy1 (rhs1 x) h).isLt, ?_⟩
  rw [ofP_val, ofP_val]
  cases h
  · exact root_sq _ hq
  · show -(lowP (rtP (rhs1 x))) * -(lowP (rtP (rhs1 x))) = rhs1 x
    rw [neg_sq]; exact root_sq _ hq
def altG1 (l : List UInt8) : Alts := [(some (l.length ≠ 48 ∧ l.length ≠ 96), .tp [.ag [.c (.int .u64 0), .c (.int .u64 0), .c (.int .u64 0), .c (.int .u64 0), .c (.int .u64 0), .c (.int .u64 0), .c (.int .u64 0), .c (.int .u64 0), .c (.int .u64 0), .c (.int .u64 0), .c (.int .u64 0), .c (.int .u64 0), .c (.bool false)], .v (.int .i64 3)]), (some ((l.length = 48 ∧ top3 l ≠ 4 ∧ top3 l ≠ 5 ∧ top3 l ≠ 6) ∨ (l.length = 96 ∧ top3 l ≠ 0 ∧ top3 l ≠ 2)), .tp [.ag [.c (.int .u64 0), .c (.int .u64 0), .c (.int .u64 0), .c (.int .u64 0), .c (.int .u64 0), .c (.int .u64 0), .c (.int .u64 0), .c (.int .u64 0), .c (.int .u64 0), .c (.int .u64 0), .c (.int .u64 0), .c (.int .u64 0), .c (.bool false)], .v (.int .i64 32)]), (some (((l.length = 48 ∧ top3 l = 6) ∨ (l.length = 96 ∧ top3 l = 2)) ∧ ¬ allZ (maskL l)), .tp [.ag [.c (.int .u64 0), .c (.int .u64 0), .c (.int .u64 0), .c (.int .u64 0), .c (.int .u64 0), .c (.int .u64 0), .c (.int .u64 0), .c (.int .u64 0), .c (.int .u64 0), .c (.int .u64 0), .c (.int .u64 0), .c (.int .u64 0), .c (.bool false)], .v (.int .i64 33)]), (some (((l.length = 48 ∧ top3 l = 6) ∨ (l.length = 96 ∧ top3 l = 2)) ∧ allZ (maskL l)), .tp [.ag [.c (.int .u64 0), .c (.int .u64 0), .c (.int .u64 0), .c (.int .u64 0), .c (.int .u64 0), .c (.int .u64 0), .c (.int .u64 0), .c (.int .u64 0), .c (.int .u64 0), .c (.int .u64 0), .c (.int .u64 0), .c (.int .u64 0), .c (.bool true)], .v (.int .i64 0)]), (some (sh1 l ∧ ¬ nX l < Pp), .tp [.ag [.c (.int .u64 0), .c (.int .u64 0), .c (.int .u64 0), .c (.int .u64 0), .c (.int .u64 0), .c (.int .u64 0), .c (.int .u64 0), .c (.int .u64 0), .c (.int .u64 0), .c (.int .u64 0), .c (.int .u64 0), .c (.int .u64 0), .c (.bool false)], .v (.int .i64 20)]), (some (sh1 l ∧ nX l < Pp ∧ ¬ sqP (rhs1 (ofP (nX l)))), .tp [.ag [.c (.int .u64 0), .c (.int .u64 0), .c (.int .u64 0), .c (.int .u64 0), .c (.int .u64 0), .c (.int .u64 0), .c (.int .u64 0), .c (.int .u64 0), .c (.int .u64 0), .c (.int .u64 0), .c (.int .u64 0), .c (.int .u64 0), .c (.bool false)], .v (.int .i64 30)]), (some (sh1 l ∧ nX l < Pp ∧ sqP (rhs1 (ofP (nX l))) ∧ ¬ grp1 ((ofP (nX l)).val, (sy1 (rhs1 (ofP (nX l))) (decide (top3 l = 5))).val, false)), .tp [.ag [.c (.int .u64 0), .c (.int .u64 0), .c (.int .u64 0), .c (.int .u64 0), .c (.int .u64 0), .c (.int .u64 0), .c (.int .u64 0), .c (.int .u64 0), .c (.int .u64 0), .c (.int .u64 0), .c (.int .u64 0), .c (.int .u64 0), .c (.bool false)], .v (.int .i64 31)]), (some (sh1 l ∧ nX l < Pp ∧ sqP (rhs1 (ofP (nX l))) ∧ grp1 ((ofP (nX l)).val, (sy1 (rhs1 (ofP (nX l))) (decide (top3 l = 5))).val, false)), .tp [.ag [.q (ofP (nX l)), .q (sy1 (rhs1 (ofP (nX l))) (decide (top3 l = 5))), .c (.bool false)], .v (.int .i64 0)]), (some (lo1 l ∧ ¬ (nX l < Pp ∧ nY l < Pp)), .tp [.ag [.c (.int .u64 0), .c (.int .u64 0), .c (.int .u64 0), .c (.int .u64 0), .c (.int .u64 0), .c (.int .u64 0), .c (.int .u64 0), .c (.int .u64 0), .c (.int .u64 0), .c (.int .u64 0), .c (.int .u64 0), .c (.int .u64 0), .c (.bool false)], .v (.int .i64 20)]), (some (lo1 l ∧ (nX l < Pp ∧ nY l < Pp) ∧ ¬ may1 ((ofP (nX l)).val, (ofP (nY l)).val, false)), .tp [.ag [.c (.int .u64 0), .c (.int .u64 0), .c (.int .u64 0), .c (.int .u64 0), .c (.int .u64 0), .c (.int .u64 0), .c (.int .u64 0), .c (.int .u64 0), .c (.int .u64 0), .c (.int .u64 0), .c (.int .u64 0), .c (.int .u64 0), .c (.bool false)], .v (.int .i64 30)]), (some (lo1 l ∧ (nX l < Pp ∧ nY l < Pp) ∧ may1 ((ofP (nX l)).val, (ofP (nY l)).val, false) ∧ ¬ grp1 ((ofP (nX l)).val, (ofP (nY l)).val, false)), .tp [.ag [.c (.int .u64 0), .c (.int .u64 0), .c (.int .u64 0), .c (.int .u64 0), .c (.int .u64 0), .c (.int .u64 0), .c (.int .u64 0), .c (.int .u64 0), .c (.int .u64 0), .c (.int .u64 0), .c (.int .u64 0), .c (.int .u64 0), .c (.bool false)], .v (.int .i64 31)]), (some (lo1 l ∧ (nX l < Pp ∧ nY l < Pp) ∧ may1 ((ofP (nX l)).val, (ofP (nY l)).val, false) ∧ grp1 ((ofP (nX l)).val, (ofP (nY l)).val, false)), .tp [.ag [.q (ofP (nX l)), .q (ofP (nY l)), .c (.bool false)], .v (.int .i64 0)])]
theorem get1_all (l : List UInt8) : ∀ c r, (c, r) ∈ altG1 l → c.getD True → Gives Try.prog 7 [.t (.v (.string (ofL l)))] r := by
  intro c x hm hc
  simp only [altG1, List.mem_cons, Prod.mk.injEq, List.not_mem_nil, or_false] at hm
  rcases hm with ⟨rfl, rfl⟩ | ⟨rfl, rfl⟩ | ⟨rfl, rfl⟩ | ⟨rfl, rfl⟩ | ⟨rfl, rfl⟩ | ⟨rfl, rfl⟩ | ⟨rfl, rfl⟩ | ⟨rfl, rfl⟩ | ⟨rfl, rfl⟩ | ⟨rfl, rfl⟩ | ⟨rfl, rfl⟩ | ⟨rfl, rfl⟩
  · exact get1_e3 l hc
  · exact get1_e32 l hc
  · exact get1_e33 l hc
  · obtain ⟨h | h, hz⟩ := hc
    · exact get1_i6 l ⟨h, hz⟩
    · exact get1_i7 l ⟨h, hz⟩
  · obtain ⟨⟨hL, ht | ht⟩, h⟩ := hc
    · exact get1_s4r l hL ht (Nat.le_of_not_lt h)
    · exact get1_s5r l hL ht (Nat.le_of_not_lt h)
  · obtain ⟨⟨hL, ht | ht⟩, h, hq⟩ := hc
    · exact get1_s4n l hL ht h hq
    · exact get1_s5n l hL ht h hq
  · obtain ⟨⟨hL, ht | ht⟩, h, hq, hg⟩ := hc
    · have e : decide (top3 l = 5) = false := by rw [ht]; rfl
      rw [e] at hg
      exact get1_s4g l hL ht h hq ⟨small_pt _ _ _, may_root _ false hq, hg⟩
    · have e : decide (top3 l = 5) = true := by rw [ht]; rfl
      rw [e] at hg
      exact get1_s5g l hL ht h hq ⟨small_pt _ _ _, may_root _ true hq, hg⟩
  · obtain ⟨⟨hL, ht | ht⟩, h, hq, hg⟩ := hc
    · have e : decide (top3 l = 5) = false := by rw [ht]; rfl
      rw [e] at hg ⊢
      exact get1_s4ok l hL ht h hq ⟨small_pt _ _ _, may_root _ false hq, hg⟩
    · have e : decide (top3 l = 5) = true := by rw [ht]; rfl
      rw [e] at hg ⊢
      exact get1_s5ok l hL ht h hq ⟨small_pt _ _ _, may_root _ true hq, hg⟩
  · obtain ⟨⟨hL, ht⟩, h⟩ := hc
    by_cases h1 : nX l < Pp
    · by_cases h2 : nY l < Pp
      · exact absurd ⟨h1, h2⟩ h
      · exact get1_l10 l hL ht h1 (Nat.le_of_not_lt h2)
    · by_cases h2 : nY l < Pp
      · exact get1_l01 l hL ht (Nat.le_of_not_lt h1) h2
      · exact get1_l00 l hL ht (Nat.le_of_not_lt h1) (Nat.le_of_not_lt h2)
  · obtain ⟨⟨hL, ht⟩, ⟨h1, h2⟩, hr⟩ := hc
    exact get1_ln l hL ht h1 h2 ⟨small_pt _ _ _, hr⟩
  · obtain ⟨⟨hL, ht⟩, ⟨h1, h2⟩, hr, hg⟩ := hc
    exact get1_lg l hL ht h1 h2 ⟨small_pt _ _ _, hr, hg⟩
  · obtain ⟨⟨hL, ht⟩, ⟨h1, h2⟩, hr, hg⟩ := hc
    exact get1_lok l hL ht h1 h2 ⟨small_pt _ _ _, hr, hg⟩
end Go.Proofs.Ytobgpmclgacbmaa
