/- Pruned: Gl. -/
import Derived.Test.YtmbllhibdbeplaaQGg
import Derived.Test.YtmbllhibdbeplaaQGj
/- Contract of format.GetPublics. -/
set_option linter.unusedSimpArgs false
set_option linter.unusedVariables false
namespace Go.Proofs.Ytmbllhibdbeplaa
open Go.Ev Go.RowKit
theorem shl_24 {a : Nat} (h : a < 256) : IntKind.u32.wrap (((a : Nat) : Int) * 2 ^ min (24 : Int).toNat IntKind.u32.bits) = ((a * 16777216 : Nat) : Int) := by
  have e : (2 : Int) ^ min (24 : Int).toNat IntKind.u32.bits = 16777216 := by decide
  rw [e, show ((a : Nat) : Int) * 16777216 = ((a * 16777216 : Nat) : Int) by omega]
  exact u32_wrap (by omega)
theorem shl_16 {a : Nat} (h : a < 256) : IntKind.u32.wrap (((a : Nat) : Int) * 2 ^ min (16 : Int).toNat IntKind.u32.bits) = ((a * 65536 : Nat) : Int) := by
  have e : (2 : Int) ^ min (16 : Int).toNat IntKind.u32.bits = 65536 := by decide
  rw [e, show ((a : Nat) : Int) * 65536 = ((a * 65536 : Nat) : Int) by omega]
  exact u32_wrap (by omega)
theorem shl_8 {a : Nat} (h : a < 256) : IntKind.u32.wrap (((a : Nat) : Int) * 2 ^ min (8 : Int).toNat IntKind.u32.bits) = ((a * 256 : Nat) : Int) := by
  have e : (2 : Int) ^ min (8 : Int).toNat IntKind.u32.bits = 256 := by decide
  rw [e, show ((a : Nat) : Int) * 256 = ((a * 256 : Nat) : Int) by omega]
  exact u32_wrap (by omega)
theorem fl_n (C : List Value) (x : Nat) : flat [.l C, .n 4 x] = flat [.l (C ++ limbs 4 x)] := by simp [flat, Ch.cells]
theorem fl_z (C : List Value) : flat [.l C, .c (.int .u64 0), .c (.int .u64 0), .c (.int .u64 0), .c (.int .u64 0)] = flat [.l (C ++ limbs 4 0)] := by simp [flat, Ch.cells, limbs]
theorem fl_n0 (x : Nat) : flat [.n 4 x] = flat [.l (limbs 4 x)] := by simp [flat, Ch.cells]
theorem fl_z0 : flat [.c (.int .u64 0), .c (.int .u64 0), .c (.int .u64 0), .c (.int .u64 0)] = flat [.l (limbs 4 0)] := by simp [flat, Ch.cells, limbs]
def gnZ (N : Nat) (sb : List UInt8) (e : Int) : LState := { n := 35, sl := [(4, .p 23 0), (6, .v (.slice none 0 0)), (16, .v (.int .i64 (N : Int))), (17, .v (.int .i64 0))], hp := [(23, .own [.c (.string (ofL sb)), .c (.int .i64 e)] 102)] }
def gnI (N : Nat) (C : List Value) (i : Nat) (sb : List UInt8) (e : Int) : LState := { n := 35, sl := [(4, .p 23 0), (6, .sx 24 i), (16, .v (.int .i64 (N : Int))), (17, .v (.int .i64 (i : Int)))], hp := [(23, .own [.c (.string (ofL sb)), .c (.int .i64 e)] 102), (24, .gr [.l C] 32 4)] }
def gnE0 (sb : List UInt8) (e : Int) : LState := { n := 35, sl := [(4, .p 23 0), (6, .v (.slice none 0 0))], hp := [(23, .own [.c (.string (ofL sb)), .c (.int .i64 e)] 102)] }
def gnE (C : List Value) (i : Nat) (sb : List UInt8) (e : Int) : LState := { n := 35, sl := [(4, .p 23 0), (6, .sx 24 i)], hp := [(23, .own [.c (.string (ofL sb)), .c (.int .i64 e)] 102), (24, .gr [.l C] 32 4)] }
theorem gnzA (N : Nat) (hi : 0 < N) (sb : List UInt8) (hl : 32 ≤ sb.length) (h : (gfE (sb.take 32)) = 0) : Sound Try.prog 0 false (loopB Try.f25 0) (gnZ N sb 0).aa .normal (gnI N (limbs 4 (gfV (sb.take 32))) 1 (sb.drop 32) (gfE (sb.take 32))).aa :=
  roundP_sound (P := Try.prog) (X := rulesY _) (env := [eFGetT]) ⟨eFGetT_ok, trivial⟩ (n := 3) (os := oL [(108, wT), (125, rO 5 0), (139, rO 5 0), (157, wF)]) (fb := 0) (rd := false) (c := (loopB Try.f25 0)) (k := 108) (I := gnZ N sb 0) (J := gnI N (limbs 4 (gfV (sb.take 32))) 1 (sb.drop 32) (gfE (sb.take 32))) (τ := [(24, 161)]) (ex := .normal) (by kernel_rfl)
    (And.intro (show ((true = true ∧ 0 = 0) ∧ (true = true ∧ 1 = 1) ∧ (Value.int .i64 (N : Int)) = (Value.int .i64 (N : Int)) ∧ (Value.int .i64 (IntKind.i64.wrap (0 + 1))) = (Value.int .i64 ((1 : Nat) : Int)) ∧ True) ∧ ((102 = 102 ∧ flat [.c (.string (ofL (sb.drop 32))), .c (.int .i64 (gfE (sb.take 32)))] = flat [.c (.string (ofL (sb.drop 32))), .c (.int .i64 (gfE (sb.take 32)))]) ∧ ((32 = 32 ∧ 4 = 4) ∧ flat [.n 4 (gfV (sb.take 32))] = flat [.l (limbs 4 (gfV (sb.take 32)))]) ∧ True) from ⟨⟨⟨rfl, rfl⟩, ⟨rfl, rfl⟩, rfl, rfl, trivial⟩, ⟨rfl, rfl⟩, ⟨⟨rfl, rfl⟩, fl_n0 _⟩, trivial⟩)
      (And.intro (show ((gfE (sb.take 32)) != 0) = false from by rw [h]; rfl)
      (And.intro (show (0 : Int) ≤ 32 ∧ (32 : Int) ≤ (ofL sb).size from ⟨by decide, by show (32 : Int) ≤ ((sb).length : Nat); omega⟩)
      (And.intro (show (0 : Int) ≤ 32 ∧ (32 : Int) ≤ (ofL sb).size from ⟨by decide, by show (32 : Int) ≤ ((sb).length : Nat); omega⟩)
      (And.intro (show decide ((0 : Int) < ((N : Nat) : Int)) = true from decide_eq_true (by omega)) trivial)))))
theorem gnzB (N : Nat) (hi : 0 < N) (sb : List UInt8) (hl : 32 ≤ sb.length) (h : (gfE (sb.take 32)) ≠ 0) : Sound Try.prog 0 false (loopB Try.f25 0) (gnZ N sb 0).aa .normal (gnI N (limbs 4 (gfV (sb.take 32))) 1 (sb.drop 32) (gfE (sb.take 32))).aa :=
  roundP_sound (P := Try.prog) (X := rulesY _) (env := [eFGetT]) ⟨eFGetT_ok, trivial⟩ (n := 3) (os := oL [(108, wT), (125, rO 5 0), (139, rO 5 0), (157, wT)]) (fb := 0) (rd := false) (c := (loopB Try.f25 0)) (k := 108) (I := gnZ N sb 0) (J := gnI N (limbs 4 (gfV (sb.take 32))) 1 (sb.drop 32) (gfE (sb.take 32))) (τ := [(24, 161)]) (ex := .normal) (by kernel_rfl)
    (And.intro (show ((true = true ∧ 0 = 0) ∧ (true = true ∧ 1 = 1) ∧ (Value.int .i64 (N : Int)) = (Value.int .i64 (N : Int)) ∧ (Value.int .i64 (IntKind.i64.wrap (0 + 1))) = (Value.int .i64 ((1 : Nat) : Int)) ∧ True) ∧ ((102 = 102 ∧ flat [.c (.string (ofL (sb.drop 32))), .c (.int .i64 (gfE (sb.take 32)))] = flat [.c (.string (ofL (sb.drop 32))), .c (.int .i64 (gfE (sb.take 32)))]) ∧ ((32 = 32 ∧ 4 = 4) ∧ flat [.c (.int .u64 0), .c (.int .u64 0), .c (.int .u64 0), .c (.int .u64 0)] = flat [.l (limbs 4 (gfV (sb.take 32)))]) ∧ True) from ⟨⟨⟨rfl, rfl⟩, ⟨rfl, rfl⟩, rfl, rfl, trivial⟩, ⟨rfl, rfl⟩, ⟨⟨rfl, rfl⟩, by rw [gf_none h]; exact fl_z0⟩, trivial⟩)
      (And.intro (show ((gfE (sb.take 32)) != 0) = true from by simpa using h)
      (And.intro (show (0 : Int) ≤ 32 ∧ (32 : Int) ≤ (ofL sb).size from ⟨by decide, by show (32 : Int) ≤ ((sb).length : Nat); omega⟩)
      (And.intro (show (0 : Int) ≤ 32 ∧ (32 : Int) ≤ (ofL sb).size from ⟨by decide, by show (32 : Int) ≤ ((sb).length : Nat); omega⟩)
      (And.intro (show decide ((0 : Int) < ((N : Nat) : Int)) = true from decide_eq_true (by omega)) trivial)))))
theorem gnzC (N : Nat) (hi : 0 < N) (sb : List UInt8) (e : Int) (h : e ≠ 0) : Sound Try.prog 0 false (loopB Try.f25 0) (gnZ N sb e).aa .normal (gnI N (limbs 4 0) 1 sb e).aa :=
  roundP_sound (P := Try.prog) (X := rulesY _) (env := [eFGetT]) ⟨eFGetT_ok, trivial⟩ (n := 3) (os := oL [(108, wT), (118, wT)]) (fb := 0) (rd := false) (c := (loopB Try.f25 0)) (k := 108) (I := gnZ N sb e) (J := gnI N (limbs 4 0) 1 sb e) (τ := [(24, 122)]) (ex := .normal) (by kernel_rfl)
    (And.intro (show ((true = true ∧ 0 = 0) ∧ (true = true ∧ 1 = 1) ∧ (Value.int .i64 (N : Int)) = (Value.int .i64 (N : Int)) ∧ (Value.int .i64 (IntKind.i64.wrap (0 + 1))) = (Value.int .i64 ((1 : Nat) : Int)) ∧ True) ∧ ((102 = 102 ∧ flat [.c (.string (ofL sb)), .c (.int .i64 e)] = flat [.c (.string (ofL sb)), .c (.int .i64 e)]) ∧ ((32 = 32 ∧ 4 = 4) ∧ flat [.c (.int .u64 0), .c (.int .u64 0), .c (.int .u64 0), .c (.int .u64 0)] = flat [.l (limbs 4 0)]) ∧ True) from ⟨⟨⟨rfl, rfl⟩, ⟨rfl, rfl⟩, rfl, rfl, trivial⟩, ⟨rfl, rfl⟩, ⟨⟨rfl, rfl⟩, fl_z0⟩, trivial⟩)
      (And.intro (show (e != 0) = true from by simpa using h)
      (And.intro (show decide ((0 : Int) < ((N : Nat) : Int)) = true from decide_eq_true (by omega)) trivial)))
theorem gnrA (i : Nat) (N : Nat) (hi : i < N) (sb : List UInt8) (hN : N ≤ 1000000) (C : List Value) (hC : C.length = i * 4) (hl : 32 ≤ sb.length) (h : (gfE (sb.take 32)) = 0) : Sound Try.prog 0 false (loopB Try.f25 0) (gnI N C i sb 0).aa .normal (gnI N (C ++ limbs 4 (gfV (sb.take 32))) (i + 1) (sb.drop 32) (gfE (sb.take 32))).aa :=
  roundP_sound (P := Try.prog) (X := rulesY _) (env := [eFGetT]) ⟨eFGetT_ok, trivial⟩ (n := 3) (os := oL [(108, wT), (125, rO 5 0), (139, rO 5 0), (157, wF), (161, { ch := 0, hi := fun _ => 0, ex := 1 })]) (fb := 0) (rd := false) (c := (loopB Try.f25 0)) (k := 108) (I := gnI N C i sb 0) (J := gnI N (C ++ limbs 4 (gfV (sb.take 32))) (i + 1) (sb.drop 32) (gfE (sb.take 32))) (τ := [(24, 161)]) (ex := .normal) (by kernel_rfl)
    (And.intro (show ((true = true ∧ 0 = 0) ∧ (true = true ∧ (i + 1) = (i + 1)) ∧ (Value.int .i64 (N : Int)) = (Value.int .i64 (N : Int)) ∧ (Value.int .i64 (IntKind.i64.wrap ((i : Int) + 1))) = (Value.int .i64 ((i + 1 : Nat) : Int)) ∧ True) ∧ ((102 = 102 ∧ flat [.c (.string (ofL (sb.drop 32))), .c (.int .i64 (gfE (sb.take 32)))] = flat [.c (.string (ofL (sb.drop 32))), .c (.int .i64 (gfE (sb.take 32)))]) ∧ ((32 = 32 ∧ 4 = 4) ∧ flat [.l C, .n 4 (gfV (sb.take 32))] = flat [.l (C ++ limbs 4 (gfV (sb.take 32)))]) ∧ True) from ⟨⟨⟨rfl, rfl⟩, ⟨rfl, rfl⟩, rfl, by rw [show IntKind.i64.wrap ((i : Int) + 1) = ((i + 1 : Nat) : Int) by rw [wrap_i64]; omega], trivial⟩, ⟨rfl, rfl⟩, ⟨⟨rfl, rfl⟩, fl_n C _⟩, trivial⟩)
      (And.intro (show sizes [.l C] = i * 4 ∧ i + 1 ≤ 9223372036854775807 ∧ (i + 1) * 32 ≤ 140737488355328 ∧ True from ⟨by show C.length + 0 = i * 4; omega, by omega, by omega, trivial⟩)
      (And.intro (show ((gfE (sb.take 32)) != 0) = false from by rw [h]; rfl)
      (And.intro (show (0 : Int) ≤ 32 ∧ (32 : Int) ≤ (ofL sb).size from ⟨by decide, by show (32 : Int) ≤ ((sb).length : Nat); omega⟩)
      (And.intro (show (0 : Int) ≤ 32 ∧ (32 : Int) ≤ (ofL sb).size from ⟨by decide, by show (32 : Int) ≤ ((sb).length : Nat); omega⟩)
      (And.intro (show decide (((i : Nat) : Int) < ((N : Nat) : Int)) = true from decide_eq_true (by omega)) trivial))))))
theorem gnrB (i : Nat) (N : Nat) (hi : i < N) (sb : List UInt8) (hN : N ≤ 1000000) (C : List Value) (hC : C.length = i * 4) (hl : 32 ≤ sb.length) (h : (gfE (sb.take 32)) ≠ 0) : Sound Try.prog 0 false (loopB Try.f25 0) (gnI N C i sb 0).aa .normal (gnI N (C ++ limbs 4 (gfV (sb.take 32))) (i + 1) (sb.drop 32) (gfE (sb.take 32))).aa :=
  roundP_sound (P := Try.prog) (X := rulesY _) (env := [eFGetT]) ⟨eFGetT_ok, trivial⟩ (n := 3) (os := oL [(108, wT), (125, rO 5 0), (139, rO 5 0), (157, wT), (161, { ch := 0, hi := fun _ => 0, ex := 1 })]) (fb := 0) (rd := false) (c := (loopB Try.f25 0)) (k := 108) (I := gnI N C i sb 0) (J := gnI N (C ++ limbs 4 (gfV (sb.take 32))) (i + 1) (sb.drop 32) (gfE (sb.take 32))) (τ := [(24, 161)]) (ex := .normal) (by kernel_rfl)
    (And.intro (show ((true = true ∧ 0 = 0) ∧ (true = true ∧ (i + 1) = (i + 1)) ∧ (Value.int .i64 (N : Int)) = (Value.int .i64 (N : Int)) ∧ (Value.int .i64 (IntKind.i64.wrap ((i : Int) + 1))) = (Value.int .i64 ((i + 1 : Nat) : Int)) ∧ True) ∧ ((102 = 102 ∧ flat [.c (.string (ofL (sb.drop 32))), .c (.int .i64 (gfE (sb.take 32)))] = flat [.c (.string (ofL (sb.drop 32))), .c (.int .i64 (gfE (sb.take 32)))]) ∧ ((32 = 32 ∧ 4 = 4) ∧ flat [.l C, .c (.int .u64 0), .c (.int .u64 0), .c (.int .u64 0), .c (.int .u64 0)] = flat [.l (C ++ limbs 4 (gfV (sb.take 32)))]) ∧ True) from ⟨⟨⟨rfl, rfl⟩, ⟨rfl, rfl⟩, rfl, by rw [show IntKind.i64.wrap ((i : Int) + 1) = ((i + 1 : Nat) : Int) by rw [wrap_i64]; omega], trivial⟩, ⟨rfl, rfl⟩, ⟨⟨rfl, rfl⟩, by rw [gf_none h]; exact fl_z C⟩, trivial⟩)
      (And.intro (show sizes [.l C] = i * 4 ∧ i + 1 ≤ 9223372036854775807 ∧ (i + 1) * 32 ≤ 140737488355328 ∧ True from ⟨by show C.length + 0 = i * 4; omega, by omega, by omega, trivial⟩)
      (And.intro (show ((gfE (sb.take 32)) != 0) = true from by simpa using h)
      (And.intro (show (0 : Int) ≤ 32 ∧ (32 : Int) ≤ (ofL sb).size from ⟨by decide, by show (32 : Int) ≤ ((sb).length : Nat); omega⟩)
      (And.intro (show (0 : Int) ≤ 32 ∧ (32 : Int) ≤ (ofL sb).size from ⟨by decide, by show (32 : Int) ≤ ((sb).length : Nat); omega⟩)
      (And.intro (show decide (((i : Nat) : Int) < ((N : Nat) : Int)) = true from decide_eq_true (by omega)) trivial))))))
theorem gnrC (i : Nat) (N : Nat) (hi : i < N) (sb : List UInt8) (hN : N ≤ 1000000) (C : List Value) (hC : C.length = i * 4) (e : Int) (h : e ≠ 0) : Sound Try.prog 0 false (loopB Try.f25 0) (gnI N C i sb e).aa .normal (gnI N (C ++ limbs 4 0) (i + 1) sb e).aa :=
  roundP_sound (P := Try.prog) (X := rulesY _) (env := [eFGetT]) ⟨eFGetT_ok, trivial⟩ (n := 3) (os := oL [(108, wT), (118, wT), (122, { ch := 0, hi := fun _ => 0, ex := 1 })]) (fb := 0) (rd := false) (c := (loopB Try.f25 0)) (k := 108) (I := gnI N C i sb e) (J := gnI N (C ++ limbs 4 0) (i + 1) sb e) (τ := [(24, 122)]) (ex := .normal) (by kernel_rfl)
    (And.intro (show ((true = true ∧ 0 = 0) ∧ (true = true ∧ (i + 1) = (i + 1)) ∧ (Value.int .i64 (N : Int)) = (Value.int .i64 (N : Int)) ∧ (Value.int .i64 (IntKind.i64.wrap ((i : Int) + 1))) = (Value.int .i64 ((i + 1 : Nat) : Int)) ∧ True) ∧ ((102 = 102 ∧ flat [.c (.string (ofL sb)), .c (.int .i64 e)] = flat [.c (.string (ofL sb)), .c (.int .i64 e)]) ∧ ((32 = 32 ∧ 4 = 4) ∧ flat [.l C, .c (.int .u64 0), .c (.int .u64 0), .c (.int .u64 0), .c (.int .u64 0)] = flat [.l (C ++ limbs 4 0)]) ∧ True) from ⟨⟨⟨rfl, rfl⟩, ⟨rfl, rfl⟩, rfl, by rw [show IntKind.i64.wrap ((i : Int) + 1) = ((i + 1 : Nat) : Int) by rw [wrap_i64]; omega], trivial⟩, ⟨rfl, rfl⟩, ⟨⟨rfl, rfl⟩, fl_z C⟩, trivial⟩)
      (And.intro (show sizes [.l C] = i * 4 ∧ i + 1 ≤ 9223372036854775807 ∧ (i + 1) * 32 ≤ 140737488355328 ∧ True from ⟨by show C.length + 0 = i * 4; omega, by omega, by omega, trivial⟩)
      (And.intro (show (e != 0) = true from by simpa using h)
      (And.intro (show decide (((i : Nat) : Int) < ((N : Nat) : Int)) = true from decide_eq_true (by omega)) trivial))))
theorem gn_end0 (N : Nat) (hN : N = 0) (sb : List UInt8) (e : Int) : Sound Try.prog 0 false (loopB Try.f25 0) (gnZ N sb e).aa (.exit 0) (gnE0 sb e).aa :=
  roundK_sound (P := Try.prog) (X := rulesY _) (env := []) trivial (n := 0) (os := oL [(108, wF)]) (fb := 0) (rd := false) (c := (loopB Try.f25 0)) (k := 108) (I := gnZ N sb e) (sk := [4, 6]) (hk := [23]) (lk := []) (ex := .exit 0)
    (L := gnE0 sb e) (by kernel_rfl) (And.intro (show decide ((0 : Int) < ((N : Nat) : Int)) = false from decide_eq_false (by omega)) trivial)
theorem gn_end (N : Nat) (C : List Value) (sb : List UInt8) (e : Int) : Sound Try.prog 0 false (loopB Try.f25 0) (gnI N C N sb e).aa (.exit 0) (gnE C N sb e).aa :=
  roundK_sound (P := Try.prog) (X := rulesY _) (env := []) trivial (n := 0) (os := oL [(108, wF)]) (fb := 0) (rd := false) (c := (loopB Try.f25 0)) (k := 108) (I := gnI N C N sb e) (sk := [4, 6]) (hk := [23, 24]) (lk := []) (ex := .exit 0)
    (L := gnE C N sb e) (by kernel_rfl) (And.intro (show decide (((N : Nat) : Int) < ((N : Nat) : Int)) = false from decide_eq_false (by omega)) trivial)
def gnV (st : Int × List UInt8) (j : Nat) : Nat := rvl 32 gfV 0 (nst 32 gfE j st)
def gnVs (st : Int × List UInt8) (i : Nat) : List Nat := (List.range i).map (gnV st)
theorem gnVs_succ (st : Int × List UInt8) (i : Nat) : numC 4 (gnVs st (i + 1)) = numC 4 (gnVs st i) ++ limbs 4 (gnV st i) := by
  unfold gnVs
  rw [List.range_succ, List.map_append]
  simp [numC]
theorem gnVs_len (st : Int × List UInt8) (i : Nat) : (numC 4 (gnVs st i)).length = i * 4 := by
  rw [numC_length]; simp [gnVs]
theorem gnz (N : Nat) (hi : 0 < N) (st : Int × List UInt8) (hl : st.1 = 0 → 32 ≤ st.2.length) : Sound Try.prog 0 false (loopB Try.f25 0) (gnZ N st.2 st.1).aa .normal (gnI N (limbs 4 (rvl 32 gfV 0 st)) 1 (rst 32 gfE st).2 (rst 32 gfE st).1).aa := by
  obtain ⟨e, sb⟩ := st
  by_cases h : e = 0
  · subst h
    by_cases h1 : gfE (sb.take 32) = 0
    · exact gnzA N hi sb (hl rfl) h1
    · exact gnzB N hi sb (hl rfl) h1
  · rw [show rst 32 gfE (e, sb) = (e, sb) from if_neg h, show rvl 32 gfV 0 (e, sb) = 0 from if_neg h]
    exact gnzC N hi sb e h
theorem gnr (N i : Nat) (hi : i < N) (hN : N ≤ 1000000) (C : List Value) (hC : C.length = i * 4) (st : Int × List UInt8) (hl : st.1 = 0 → 32 ≤ st.2.length) : Sound Try.prog 0 false (loopB Try.f25 0) (gnI N C i st.2 st.1).aa .normal (gnI N (C ++ limbs 4 (rvl 32 gfV 0 st)) (i + 1) (rst 32 gfE st).2 (rst 32 gfE st).1).aa := by
  obtain ⟨e, sb⟩ := st
  by_cases h : e = 0
  · subst h
    by_cases h1 : gfE (sb.take 32) = 0
    · exact gnrA i N hi sb hN C hC (hl rfl) h1
    · exact gnrB i N hi sb hN C hC (hl rfl) h1
  · rw [show rst 32 gfE (e, sb) = (e, sb) from if_neg h, show rvl 32 gfV 0 (e, sb) = 0 from if_neg h]
    exact gnrC i N hi sb hN C hC e h
def gnF (N : Nat) (st : Int × List UInt8) : Nat → LState
  | 0 => gnZ N st.2 st.1
  | i + 1 => gnI N (numC 4 (gnVs st (i + 1))) (i + 1) (nst 32 gfE (i + 1) st).2 (nst 32 gfE (i + 1) st).1
theorem gn_len (N : Nat) (st : Int × List UInt8) (h0 : st.1 = 0 → 32 * N ≤ st.2.length) (i : Nat) (hi : i < N) : (nst 32 gfE i st).1 = 0 → 32 ≤ (nst 32 gfE i st).2.length := by
  intro h
  obtain ⟨h1, h2, _⟩ := nst_zero i st h
  rw [h2]
  show 32 ≤ (st.2.drop (32 * i)).length
  have := h0 h1
  rw [List.length_drop]
  omega
theorem gn_all (N : Nat) (h1 : 0 < N) (hN : N ≤ 1000000) (st : Int × List UInt8) (h0 : st.1 = 0 → 32 * N ≤ st.2.length) : Sound Try.prog 0 false (.loop (loopB Try.f25 0)) (gnZ N st.2 st.1).aa (.exit 0) (gnE (numC 4 (gnVs st N)) N (nst 32 gfE N st).2 (nst 32 gfE N st).1).aa := by
  have hh := loop_ok (P := Try.prog) (fb := 0) (rd := false) (body := (loopB Try.f25 0)) (ex := .exit 0) (E := gnE (numC 4 (gnVs st N)) N (nst 32 gfE N st).2 (nst 32 gfE N st).1) (m := fun y : { i : Nat // i ≤ N } => N - y.val) (fun y => gnF N st y.val) (by simp) (fun y => ?_) ⟨0, by omega⟩
  · exact hh
  obtain ⟨i, hi⟩ := y
  by_cases e : i < N
  · refine .inl ⟨⟨i + 1, e⟩, by show N - (i + 1) < N - i; omega, ?_⟩
    have hl := gn_len N st h0 i e
    cases i with
    | zero =>
      have h := gnz N e st hl
      show Sound _ _ _ _ (gnZ N st.2 st.1).aa _ (gnI N (numC 4 (gnVs st 1)) 1 _ _).aa
      rw [gnVs_succ, show numC 4 (gnVs st 0) = [] from rfl, List.nil_append]
      exact h
    | succ k =>
      have h := gnr N (k + 1) e hN (numC 4 (gnVs st (k + 1))) (gnVs_len st _) (nst 32 gfE (k + 1) st) hl
      show Sound _ _ _ _ _ _ (gnI N (numC 4 (gnVs st (k + 1 + 1))) (k + 1 + 1) _ _).aa
      rw [gnVs_succ]
      exact h
  · have e : i = N := by omega
    subst e
    refine .inr ?_
    cases i with
    | zero => omega
    | succ k => exact gn_end (k + 1) _ _ _
end Go.Proofs.Ytmbllhibdbeplaa

/- Contract of format.GetPublics. -/
set_option linter.unusedSimpArgs false
set_option linter.unusedVariables false
namespace Go.Proofs.Ytmbllhibdbeplaa
open Go.Ev Go.RowKit
theorem ieq0 {a b : Int} (h : a = b) : (a != b) = false := by rw [h]; simp
theorem loop_now {body : Code} {A B : LState} {i : Nat} (h : Sound Try.prog 0 false body A.aa (.exit i) B.aa) : Sound Try.prog 0 false (.loop body) A.aa (.exit i) B.aa :=
  loop_ok (m := fun _ : Unit => 0) (fun _ => A) (by simp) (fun _ => .inr h) ()
theorem gn_a (l : List UInt8) (hn : l.length < 4) : Gives Try.prog 25 [.t (.v (.string (ofL l)))] (.tp [.v (.slice none 0 0), .v (.int .i64 80)]) := by
  exact fn_gives_at (P := Try.prog) (X := rulesY _) (env := [eFGetT]) ⟨eFGetT_ok, trivial⟩ Try.func25 3 (oL [(9, wT)]) (by kernel_rfl) ⟨_, rfl⟩
    (And.intro (show decide ((((ofL l).size : Nat) : Int) < 4) = true from decide_eq_true (by show  ((l.length : Nat) : Int) < 4; omega)) trivial)
theorem gn_b (l : List UInt8) (hn : 4 ≤ l.length) (hm : l.take 4 ≠ mgW) : Gives Try.prog 25 [.t (.v (.string (ofL l)))] (.tp [.v (.slice none 0 0), .v (.int .i64 80)]) := by
  exact fn_gives_at (P := Try.prog) (X := rulesY _) (env := [eFGetT]) ⟨eFGetT_ok, trivial⟩ Try.func25 3 (oL [(9, wF), (14, rO 5 0), (16, wT)]) (by kernel_rfl) ⟨_, rfl⟩
    (And.intro (show (!((ofL (l.take 4)).toList == (ofL mgW).toList)) = true from gp_n hm)
      (And.intro (show (0 : Int) ≤ 4 ∧ (4 : Int) ≤ (ofL l).size from ⟨by decide, by show (4 : Int) ≤ ((l).length : Nat); omega⟩)
      (And.intro (show decide ((((ofL l).size : Nat) : Int) < 4) = false from decide_eq_false (by show ¬ ((l.length : Nat) : Int) < 4; omega)) trivial)))
theorem gn_c0 (l : List UInt8) (hn : 4 ≤ l.length) (hm : l.take 4 = mgW) (h4 : (l.drop 4).length < 4) (hx : (l.drop 4).length = 0) : Gives Try.prog 25 [.t (.v (.string (ofL l)))] (.tp [.v (.slice none 0 0), .v (.int .i64 3)]) := by
  exact fn_gives_at (P := Try.prog) (X := rulesY _) (env := [eFGetT]) ⟨eFGetT_ok, trivial⟩ Try.func25 3 (oL [(9, wF), (14, rO 5 0), (16, wF), (21, rO 5 0), (40, wT), (64, wF)]) (by kernel_rfl) ⟨_, rfl⟩
    (And.intro (show ((((ofL (l.drop 4)).size : Nat) : Int) != 0) = false from by
        have h1 : (((l.drop 4).length : Nat) : Int) = 0 := by omega
        exact ieq0 h1)
      (And.intro (show decide ((((ofL (l.drop 4)).size : Nat) : Int) < 4) = true from decide_eq_true (by show (((l.drop 4).length : Nat) : Int) < 4; omega))
      (And.intro (show (0 : Int) ≤ 4 ∧ (4 : Int) ≤ (ofL l).size from ⟨by decide, by show (4 : Int) ≤ ((l).length : Nat); omega⟩)
      (And.intro (show (!((ofL (l.take 4)).toList == (ofL mgW).toList)) = false from by rw [hm]; simp)
      (And.intro (show (0 : Int) ≤ 4 ∧ (4 : Int) ≤ (ofL l).size from ⟨by decide, by show (4 : Int) ≤ ((l).length : Nat); omega⟩)
      (And.intro (show decide ((((ofL l).size : Nat) : Int) < 4) = false from decide_eq_false (by show ¬ ((l.length : Nat) : Int) < 4; omega)) trivial))))))
theorem gn_c1 (l : List UInt8) (hn : 4 ≤ l.length) (hm : l.take 4 = mgW) (h4 : (l.drop 4).length < 4) (hx : (l.drop 4).length ≠ 0) : Gives Try.prog 25 [.t (.v (.string (ofL l)))] (.tp [.v (.slice none 0 0), .v (.int .i64 3)]) := by
  exact fn_gives_at (P := Try.prog) (X := rulesY _) (env := [eFGetT]) ⟨eFGetT_ok, trivial⟩ Try.func25 3 (oL [(9, wF), (14, rO 5 0), (16, wF), (21, rO 5 0), (40, wT), (64, wT)]) (by kernel_rfl) ⟨_, rfl⟩
    (And.intro (show ((((ofL (l.drop 4)).size : Nat) : Int) != 0) = true from by
        have h1 : (((l.drop 4).length : Nat) : Int) ≠ 0 := by omega
        exact bne_iff_ne.2 h1)
      (And.intro (show decide ((((ofL (l.drop 4)).size : Nat) : Int) < 4) = true from decide_eq_true (by show (((l.drop 4).length : Nat) : Int) < 4; omega))
      (And.intro (show (0 : Int) ≤ 4 ∧ (4 : Int) ≤ (ofL l).size from ⟨by decide, by show (4 : Int) ≤ ((l).length : Nat); omega⟩)
      (And.intro (show (!((ofL (l.take 4)).toList == (ofL mgW).toList)) = false from by rw [hm]; simp)
      (And.intro (show (0 : Int) ≤ 4 ∧ (4 : Int) ≤ (ofL l).size from ⟨by decide, by show (4 : Int) ≤ ((l).length : Nat); omega⟩)
      (And.intro (show decide ((((ofL l).size : Nat) : Int) < 4) = false from decide_eq_false (by show ¬ ((l.length : Nat) : Int) < 4; omega)) trivial))))))
theorem gn_d0 (l : List UInt8) (hn : 4 ≤ l.length) (hm : l.take 4 = mgW) (h4 : 4 ≤ (l.drop 4).length) (hN : 64 < (c4 (l.drop 4))) (hx : ((l.drop 4).drop 4).length = 0) : Gives Try.prog 25 [.t (.v (.string (ofL l)))] (.tp [.v (.slice none 0 0), .v (.int .i64 2)]) := by
  exact fn_gives_at (P := Try.prog) (X := rulesY _) (env := [eFGetT]) ⟨eFGetT_ok, trivial⟩ Try.func25 3 (oL [(9, wF), (14, rO 5 0), (16, wF), (21, rO 5 0), (40, wF), (51, rO 1 (cn (l.drop 4) 0)), (52, { ch := 1, hi := fun _ => cn (l.drop 4) 0 }), (53, { ch := 1, hi := fun _ => cn (l.drop 4) 0 * 16777216 }), (58, rO 1 (cn (l.drop 4) 1)), (59, { ch := 1, hi := fun _ => cn (l.drop 4) 1 }), (60, { ch := 1, hi := fun _ => cn (l.drop 4) 1 * 65536 }), (61, { ch := 1, hi := fun _ => (cn (l.drop 4) 0 * 16777216) + cn (l.drop 4) 1 * 65536 }), (66, rO 1 (cn (l.drop 4) 2)), (67, { ch := 1, hi := fun _ => cn (l.drop 4) 2 }), (68, { ch := 1, hi := fun _ => cn (l.drop 4) 2 * 256 }), (69, { ch := 1, hi := fun _ => ((cn (l.drop 4) 0 * 16777216) + cn (l.drop 4) 1 * 65536) + cn (l.drop 4) 2 * 256 }), (74, rO 1 (cn (l.drop 4) 3)), (75, { ch := 1, hi := fun _ => cn (l.drop 4) 3 }), (76, { ch := 1, hi := fun _ => c4 (l.drop 4) }), (83, rO 5 0), (89, wT), (107, wF)]) (by kernel_rfl) ⟨_, rfl⟩
    (And.intro (show ((((ofL ((l.drop 4).drop 4)).size : Nat) : Int) != 0) = false from by
        have h1 : ((((l.drop 4).drop 4).length : Nat) : Int) = 0 := by omega
        exact ieq0 h1)
      (And.intro (show decide (((c4 (l.drop 4) : Nat) : Int) > 64) = true from decide_eq_true (by omega))
      (And.intro (show (0 : Int) ≤ 4 ∧ (4 : Int) ≤ (ofL (l.drop 4)).size from ⟨by decide, by show (4 : Int) ≤ (((l.drop 4)).length : Nat); have h4 : 4 ≤ (l.drop 4).length := h4; omega⟩)
      (And.intro (show IntKind.u32.wrap (((BitVec.ofInt 32 ((((cn (l.drop 4) 0 * 16777216) + cn (l.drop 4) 1 * 65536) + cn (l.drop 4) 2 * 256 : Nat) : Int) ||| BitVec.ofInt 32 ((cn (l.drop 4) 3 : Nat) : Int)).toNat : Nat) : Int) = ((c4 (l.drop 4) : Nat) : Int) from or_u32 (((cn (l.drop 4) 0 * 16777216) + cn (l.drop 4) 1 * 65536) + cn (l.drop 4) 2 * 256) (cn (l.drop 4) 3) 8 (by have := cn_lt (l.drop 4) 3; omega) (by omega) (by have := cn_lt (l.drop 4) 0; have := cn_lt (l.drop 4) 1; have := cn_lt (l.drop 4) 2; have := cn_lt (l.drop 4) 3; omega))
      (And.intro (show IntKind.u32.wrap ((cn (l.drop 4) 3 : Nat) : Int) = ((cn (l.drop 4) 3 : Nat) : Int) from u32_wrap (by have := cn_lt (l.drop 4) 3; omega))
      (And.intro (show (0 : Int) ≤ 3 ∧ (3 : Int) < (ofL (l.drop 4)).size ∧ ((ofL (l.drop 4))[(3 : Int).toNat]?.getD 0).toNat = cn (l.drop 4) 3 from cn_at (l.drop 4) 3 (by have h4 : 4 ≤ (l.drop 4).length := h4; omega))
      (And.intro (show IntKind.u32.wrap (((BitVec.ofInt 32 (((cn (l.drop 4) 0 * 16777216) + cn (l.drop 4) 1 * 65536 : Nat) : Int) ||| BitVec.ofInt 32 ((cn (l.drop 4) 2 * 256 : Nat) : Int)).toNat : Nat) : Int) = ((((cn (l.drop 4) 0 * 16777216) + cn (l.drop 4) 1 * 65536) + cn (l.drop 4) 2 * 256 : Nat) : Int) from or_u32 ((cn (l.drop 4) 0 * 16777216) + cn (l.drop 4) 1 * 65536) (cn (l.drop 4) 2 * 256) 16 (by have := cn_lt (l.drop 4) 2; omega) (by omega) (by have := cn_lt (l.drop 4) 0; have := cn_lt (l.drop 4) 1; have := cn_lt (l.drop 4) 2; have := cn_lt (l.drop 4) 3; omega))
      (And.intro (show IntKind.u32.wrap (((cn (l.drop 4) 2 : Nat) : Int) * 2 ^ min (8 : Int).toNat IntKind.u32.bits) = ((cn (l.drop 4) 2 * 256 : Nat) : Int) from shl_8 (cn_lt (l.drop 4) 2))
      (And.intro (show IntKind.u32.wrap ((cn (l.drop 4) 2 : Nat) : Int) = ((cn (l.drop 4) 2 : Nat) : Int) from u32_wrap (by have := cn_lt (l.drop 4) 2; omega))
      (And.intro (show (0 : Int) ≤ 2 ∧ (2 : Int) < (ofL (l.drop 4)).size ∧ ((ofL (l.drop 4))[(2 : Int).toNat]?.getD 0).toNat = cn (l.drop 4) 2 from cn_at (l.drop 4) 2 (by have h4 : 4 ≤ (l.drop 4).length := h4; omega))
      (And.intro (show IntKind.u32.wrap (((BitVec.ofInt 32 ((cn (l.drop 4) 0 * 16777216 : Nat) : Int) ||| BitVec.ofInt 32 ((cn (l.drop 4) 1 * 65536 : Nat) : Int)).toNat : Nat) : Int) = (((cn (l.drop 4) 0 * 16777216) + cn (l.drop 4) 1 * 65536 : Nat) : Int) from or_u32 (cn (l.drop 4) 0 * 16777216) (cn (l.drop 4) 1 * 65536) 24 (by have := cn_lt (l.drop 4) 1; omega) (by omega) (by have := cn_lt (l.drop 4) 0; have := cn_lt (l.drop 4) 1; have := cn_lt (l.drop 4) 2; have := cn_lt (l.drop 4) 3; omega))
      (And.intro (show IntKind.u32.wrap (((cn (l.drop 4) 1 : Nat) : Int) * 2 ^ min (16 : Int).toNat IntKind.u32.bits) = ((cn (l.drop 4) 1 * 65536 : Nat) : Int) from shl_16 (cn_lt (l.drop 4) 1))
      (And.intro (show IntKind.u32.wrap ((cn (l.drop 4) 1 : Nat) : Int) = ((cn (l.drop 4) 1 : Nat) : Int) from u32_wrap (by have := cn_lt (l.drop 4) 1; omega))
      (And.intro (show (0 : Int) ≤ 1 ∧ (1 : Int) < (ofL (l.drop 4)).size ∧ ((ofL (l.drop 4))[(1 : Int).toNat]?.getD 0).toNat = cn (l.drop 4) 1 from cn_at (l.drop 4) 1 (by have h4 : 4 ≤ (l.drop 4).length := h4; omega))
      (And.intro (show IntKind.u32.wrap (((cn (l.drop 4) 0 : Nat) : Int) * 2 ^ min (24 : Int).toNat IntKind.u32.bits) = ((cn (l.drop 4) 0 * 16777216 : Nat) : Int) from shl_24 (cn_lt (l.drop 4) 0))
      (And.intro (show IntKind.u32.wrap ((cn (l.drop 4) 0 : Nat) : Int) = ((cn (l.drop 4) 0 : Nat) : Int) from u32_wrap (by have := cn_lt (l.drop 4) 0; omega))
      (And.intro (show (0 : Int) ≤ 0 ∧ (0 : Int) < (ofL (l.drop 4)).size ∧ ((ofL (l.drop 4))[(0 : Int).toNat]?.getD 0).toNat = cn (l.drop 4) 0 from cn_at (l.drop 4) 0 (by have h4 : 4 ≤ (l.drop 4).length := h4; omega))
      (And.intro (show decide ((((ofL (l.drop 4)).size : Nat) : Int) < 4) = false from decide_eq_false (by have h4 : 4 ≤ (l.drop 4).length := h4; show ¬ (((l.drop 4).length : Nat) : Int) < 4; omega))
      (And.intro (show (0 : Int) ≤ 4 ∧ (4 : Int) ≤ (ofL l).size from ⟨by decide, by show (4 : Int) ≤ ((l).length : Nat); omega⟩)
      (And.intro (show (!((ofL (l.take 4)).toList == (ofL mgW).toList)) = false from by rw [hm]; simp)
      (And.intro (show (0 : Int) ≤ 4 ∧ (4 : Int) ≤ (ofL l).size from ⟨by decide, by show (4 : Int) ≤ ((l).length : Nat); omega⟩)
      (And.intro (show decide ((((ofL l).size : Nat) : Int) < 4) = false from decide_eq_false (by show ¬ ((l.length : Nat) : Int) < 4; omega)) trivial))))))))))))))))))))))
theorem gn_d1 (l : List UInt8) (hn : 4 ≤ l.length) (hm : l.take 4 = mgW) (h4 : 4 ≤ (l.drop 4).length) (hN : 64 < (c4 (l.drop 4))) (hx : ((l.drop 4).drop 4).length ≠ 0) : Gives Try.prog 25 [.t (.v (.string (ofL l)))] (.tp [.v (.slice none 0 0), .v (.int .i64 2)]) := by
  exact fn_gives_at (P := Try.prog) (X := rulesY _) (env := [eFGetT]) ⟨eFGetT_ok, trivial⟩ Try.func25 3 (oL [(9, wF), (14, rO 5 0), (16, wF), (21, rO 5 0), (40, wF), (51, rO 1 (cn (l.drop 4) 0)), (52, { ch := 1, hi := fun _ => cn (l.drop 4) 0 }), (53, { ch := 1, hi := fun _ => cn (l.drop 4) 0 * 16777216 }), (58, rO 1 (cn (l.drop 4) 1)), (59, { ch := 1, hi := fun _ => cn (l.drop 4) 1 }), (60, { ch := 1, hi := fun _ => cn (l.drop 4) 1 * 65536 }), (61, { ch := 1, hi := fun _ => (cn (l.drop 4) 0 * 16777216) + cn (l.drop 4) 1 * 65536 }), (66, rO 1 (cn (l.drop 4) 2)), (67, { ch := 1, hi := fun _ => cn (l.drop 4) 2 }), (68, { ch := 1, hi := fun _ => cn (l.drop 4) 2 * 256 }), (69, { ch := 1, hi := fun _ => ((cn (l.drop 4) 0 * 16777216) + cn (l.drop 4) 1 * 65536) + cn (l.drop 4) 2 * 256 }), (74, rO 1 (cn (l.drop 4) 3)), (75, { ch := 1, hi := fun _ => cn (l.drop 4) 3 }), (76, { ch := 1, hi := fun _ => c4 (l.drop 4) }), (83, rO 5 0), (89, wT), (107, wT)]) (by kernel_rfl) ⟨_, rfl⟩
    (And.intro (show ((((ofL ((l.drop 4).drop 4)).size : Nat) : Int) != 0) = true from by
        have h1 : ((((l.drop 4).drop 4).length : Nat) : Int) ≠ 0 := by omega
        exact bne_iff_ne.2 h1)
      (And.intro (show decide (((c4 (l.drop 4) : Nat) : Int) > 64) = true from decide_eq_true (by omega))
      (And.intro (show (0 : Int) ≤ 4 ∧ (4 : Int) ≤ (ofL (l.drop 4)).size from ⟨by decide, by show (4 : Int) ≤ (((l.drop 4)).length : Nat); have h4 : 4 ≤ (l.drop 4).length := h4; omega⟩)
      (And.intro (show IntKind.u32.wrap (((BitVec.ofInt 32 ((((cn (l.drop 4) 0 * 16777216) + cn (l.drop 4) 1 * 65536) + cn (l.drop 4) 2 * 256 : Nat) : Int) ||| BitVec.ofInt 32 ((cn (l.drop 4) 3 : Nat) : Int)).toNat : Nat) : Int) = ((c4 (l.drop 4) : Nat) : Int) from or_u32 (((cn (l.drop 4) 0 * 16777216) + cn (l.drop 4) 1 * 65536) + cn (l.drop 4) 2 * 256) (cn (l.drop 4) 3) 8 (by have := cn_lt (l.drop 4) 3; omega) (by omega) (by have := cn_lt (l.drop 4) 0; have := cn_lt (l.drop 4) 1; have := cn_lt (l.drop 4) 2; have := cn_lt (l.drop 4) 3; omega))
      (And.intro (show IntKind.u32.wrap ((cn (l.drop 4) 3 : Nat) : Int) = ((cn (l.drop 4) 3 : Nat) : Int) from u32_wrap (by have := cn_lt (l.drop 4) 3; omega))
      (And.intro (show (0 : Int) ≤ 3 ∧ (3 : Int) < (ofL (l.drop 4)).size ∧ ((ofL (l.drop 4))[(3 : Int).toNat]?.getD 0).toNat = cn (l.drop 4) 3 from cn_at (l.drop 4) 3 (by have h4 : 4 ≤ (l.drop 4).length := h4; omega))
      (And.intro (show IntKind.u32.wrap (((BitVec.ofInt 32 (((cn (l.drop 4) 0 * 16777216) + cn (l.drop 4) 1 * 65536 : Nat) : Int) ||| BitVec.ofInt 32 ((cn (l.drop 4) 2 * 256 : Nat) : Int)).toNat : Nat) : Int) = ((((cn (l.drop 4) 0 * 16777216) + cn (l.drop 4) 1 * 65536) + cn (l.drop 4) 2 * 256 : Nat) : Int) from or_u32 ((cn (l.drop 4) 0 * 16777216) + cn (l.drop 4) 1 * 65536) (cn (l.drop 4) 2 * 256) 16 (by have := cn_lt (l.drop 4) 2; omega) (by omega) (by have := cn_lt (l.drop 4) 0; have := cn_lt (l.drop 4) 1; have := cn_lt (l.drop 4) 2; have := cn_lt (l.drop 4) 3; omega))
      (And.intro (show IntKind.u32.wrap (((cn (l.drop 4) 2 : Nat) : Int) * 2 ^ min (8 : Int).toNat IntKind.u32.bits) = ((cn (l.drop 4) 2 * 256 : Nat) : Int) from shl_8 (cn_lt (l.drop 4) 2))
      (And.intro (show IntKind.u32.wrap ((cn (l.drop 4) 2 : Nat) : Int) = ((cn (l.drop 4) 2 : Nat) : Int) from u32_wrap (by have := cn_lt (l.drop 4) 2; omega))
      (And.intro (show (0 : Int) ≤ 2 ∧ (2 : Int) < (ofL (l.drop 4)).size ∧ ((ofL (l.drop 4))[(2 : Int).toNat]?.getD 0).toNat = cn (l.drop 4) 2 from cn_at (l.drop 4) 2 (by have h4 : 4 ≤ (l.drop 4).length := h4; omega))
      (And.intro (show IntKind.u32.wrap (((BitVec.ofInt 32 ((cn (l.drop 4) 0 * 16777216 : Nat) : Int) ||| BitVec.ofInt 32 ((cn (l.drop 4) 1 * 65536 : Nat) : Int)).toNat : Nat) : Int) = (((cn (l.drop 4) 0 * 16777216) + cn (l.drop 4) 1 * 65536 : Nat) : Int) from or_u32 (cn (l.drop 4) 0 * 16777216) (cn (l.drop 4) 1 * 65536) 24 (by have := cn_lt (l.drop 4) 1; omega) (by omega) (by have := cn_lt (l.drop 4) 0; have := cn_lt (l.drop 4) 1; have := cn_lt (l.drop 4) 2; have := cn_lt (l.drop 4) 3; omega))
      (And.intro (show IntKind.u32.wrap (((cn (l.drop 4) 1 : Nat) : Int) * 2 ^ min (16 : Int).toNat IntKind.u32.bits) = ((cn (l.drop 4) 1 * 65536 : Nat) : Int) from shl_16 (cn_lt (l.drop 4) 1))
      (And.intro (show IntKind.u32.wrap ((cn (l.drop 4) 1 : Nat) : Int) = ((cn (l.drop 4) 1 : Nat) : Int) from u32_wrap (by have := cn_lt (l.drop 4) 1; omega))
      (And.intro (show (0 : Int) ≤ 1 ∧ (1 : Int) < (ofL (l.drop 4)).size ∧ ((ofL (l.drop 4))[(1 : Int).toNat]?.getD 0).toNat = cn (l.drop 4) 1 from cn_at (l.drop 4) 1 (by have h4 : 4 ≤ (l.drop 4).length := h4; omega))
      (And.intro (show IntKind.u32.wrap (((cn (l.drop 4) 0 : Nat) : Int) * 2 ^ min (24 : Int).toNat IntKind.u32.bits) = ((cn (l.drop 4) 0 * 16777216 : Nat) : Int) from shl_24 (cn_lt (l.drop 4) 0))
      (And.intro (show IntKind.u32.wrap ((cn (l.drop 4) 0 : Nat) : Int) = ((cn (l.drop 4) 0 : Nat) : Int) from u32_wrap (by have := cn_lt (l.drop 4) 0; omega))
      (And.intro (show (0 : Int) ≤ 0 ∧ (0 : Int) < (ofL (l.drop 4)).size ∧ ((ofL (l.drop 4))[(0 : Int).toNat]?.getD 0).toNat = cn (l.drop 4) 0 from cn_at (l.drop 4) 0 (by have h4 : 4 ≤ (l.drop 4).length := h4; omega))
      (And.intro (show decide ((((ofL (l.drop 4)).size : Nat) : Int) < 4) = false from decide_eq_false (by have h4 : 4 ≤ (l.drop 4).length := h4; show ¬ (((l.drop 4).length : Nat) : Int) < 4; omega))
      (And.intro (show (0 : Int) ≤ 4 ∧ (4 : Int) ≤ (ofL l).size from ⟨by decide, by show (4 : Int) ≤ ((l).length : Nat); omega⟩)
      (And.intro (show (!((ofL (l.take 4)).toList == (ofL mgW).toList)) = false from by rw [hm]; simp)
      (And.intro (show (0 : Int) ≤ 4 ∧ (4 : Int) ≤ (ofL l).size from ⟨by decide, by show (4 : Int) ≤ ((l).length : Nat); omega⟩)
      (And.intro (show decide ((((ofL l).size : Nat) : Int) < 4) = false from decide_eq_false (by show ¬ ((l.length : Nat) : Int) < 4; omega)) trivial))))))))))))))))))))))
theorem gn_e0z (l : List UInt8) (hn : 4 ≤ l.length) (hm : l.take 4 = mgW) (h4 : 4 ≤ (l.drop 4).length) (hN : (c4 (l.drop 4)) ≤ 64) (hx : ((l.drop 4).drop 4).length = 32 * (c4 (l.drop 4))) (hz : (c4 (l.drop 4)) = 0) : Gives Try.prog 25 [.t (.v (.string (ofL l)))] (.tp [.v (.slice none 0 0), .v (.int .i64 0)]) := by
  exact fn_gives_at (P := Try.prog) (X := rulesY _) (env := [eFGetT]) ⟨eFGetT_ok, trivial⟩ Try.func25 3 (oL [(9, wF), (14, rO 5 0), (16, wF), (21, rO 5 0), (40, wF), (51, rO 1 (cn (l.drop 4) 0)), (52, { ch := 1, hi := fun _ => cn (l.drop 4) 0 }), (53, { ch := 1, hi := fun _ => cn (l.drop 4) 0 * 16777216 }), (58, rO 1 (cn (l.drop 4) 1)), (59, { ch := 1, hi := fun _ => cn (l.drop 4) 1 }), (60, { ch := 1, hi := fun _ => cn (l.drop 4) 1 * 65536 }), (61, { ch := 1, hi := fun _ => (cn (l.drop 4) 0 * 16777216) + cn (l.drop 4) 1 * 65536 }), (66, rO 1 (cn (l.drop 4) 2)), (67, { ch := 1, hi := fun _ => cn (l.drop 4) 2 }), (68, { ch := 1, hi := fun _ => cn (l.drop 4) 2 * 256 }), (69, { ch := 1, hi := fun _ => ((cn (l.drop 4) 0 * 16777216) + cn (l.drop 4) 1 * 65536) + cn (l.drop 4) 2 * 256 }), (74, rO 1 (cn (l.drop 4) 3)), (75, { ch := 1, hi := fun _ => cn (l.drop 4) 3 }), (76, { ch := 1, hi := fun _ => c4 (l.drop 4) }), (83, rO 5 0), (89, wF), (92, { ch := 1, hi := fun _ => (c4 (l.drop 4)) }), (96, { ch := 1, hi := fun _ => (c4 (l.drop 4)) * 32 }), (104, wF), (108, lpO { I := gnZ (c4 (l.drop 4)) ((l.drop 4).drop 4) 0, ex := .exit 0, E := gnE0 ((l.drop 4).drop 4) 0, fr := 109 })]) (by kernel_rfl) ⟨_, rfl⟩
    (And.intro (show some (gnZ (c4 (l.drop 4)) ((l.drop 4).drop 4) 0) = some (gnZ (c4 (l.drop 4)) ((l.drop 4).drop 4) 0) from rfl)
      (And.intro (loop_now (gn_end0 (c4 (l.drop 4)) hz ((l.drop 4).drop 4) 0))
      (And.intro (show ((((ofL ((l.drop 4).drop 4)).size : Nat) : Int) != (((c4 (l.drop 4)) * 32 : Nat) : Int)) = false from by
        have h1 : ((((l.drop 4).drop 4).length : Nat) : Int) = (((c4 (l.drop 4)) * 32 : Nat) : Int) := by omega
        exact ieq0 h1)
      (And.intro (show IntKind.i64.wrap ((((c4 (l.drop 4)) : Nat) : Int) * 32) = (((c4 (l.drop 4)) * 32 : Nat) : Int) from by
        rw [show (((c4 (l.drop 4)) : Nat) : Int) * 32 = (((c4 (l.drop 4)) * 32 : Nat) : Int) by omega]
        exact i64_wrap (by omega))
      (And.intro (show IntKind.i64.wrap (((c4 (l.drop 4)) : Nat) : Int) = (((c4 (l.drop 4)) : Nat) : Int) from i64_wrap (by omega))
      (And.intro (show decide (((c4 (l.drop 4) : Nat) : Int) > 64) = false from decide_eq_false (by omega))
      (And.intro (show (0 : Int) ≤ 4 ∧ (4 : Int) ≤ (ofL (l.drop 4)).size from ⟨by decide, by show (4 : Int) ≤ (((l.drop 4)).length : Nat); have h4 : 4 ≤ (l.drop 4).length := h4; omega⟩)
      (And.intro (show IntKind.u32.wrap (((BitVec.ofInt 32 ((((cn (l.drop 4) 0 * 16777216) + cn (l.drop 4) 1 * 65536) + cn (l.drop 4) 2 * 256 : Nat) : Int) ||| BitVec.ofInt 32 ((cn (l.drop 4) 3 : Nat) : Int)).toNat : Nat) : Int) = ((c4 (l.drop 4) : Nat) : Int) from or_u32 (((cn (l.drop 4) 0 * 16777216) + cn (l.drop 4) 1 * 65536) + cn (l.drop 4) 2 * 256) (cn (l.drop 4) 3) 8 (by have := cn_lt (l.drop 4) 3; omega) (by omega) (by have := cn_lt (l.drop 4) 0; have := cn_lt (l.drop 4) 1; have := cn_lt (l.drop 4) 2; have := cn_lt (l.drop 4) 3; omega))
      (And.intro (show IntKind.u32.wrap ((cn (l.drop 4) 3 : Nat) : Int) = ((cn (l.drop 4) 3 : Nat) : Int) from u32_wrap (by have := cn_lt (l.drop 4) 3; omega))
      (And.intro (show (0 : Int) ≤ 3 ∧ (3 : Int) < (ofL (l.drop 4)).size ∧ ((ofL (l.drop 4))[(3 : Int).toNat]?.getD 0).toNat = cn (l.drop 4) 3 from cn_at (l.drop 4) 3 (by have h4 : 4 ≤ (l.drop 4).length := h4; omega))
      (And.intro (show IntKind.u32.wrap (((BitVec.ofInt 32 (((cn (l.drop 4) 0 * 16777216) + cn (l.drop 4) 1 * 65536 : Nat) : Int) ||| BitVec.ofInt 32 ((cn (l.drop 4) 2 * 256 : Nat) : Int)).toNat : Nat) : Int) = ((((cn (l.drop 4) 0 * 16777216) + cn (l.drop 4) 1 * 65536) + cn (l.drop 4) 2 * 256 : Nat) : Int) from or_u32 ((cn (l.drop 4) 0 * 16777216) + cn (l.drop 4) 1 * 65536) (cn (l.drop 4) 2 * 256) 16 (by have := cn_lt (l.drop 4) 2; omega) (by omega) (by have := cn_lt (l.drop 4) 0; have := cn_lt (l.drop 4) 1; have := cn_lt (l.drop 4) 2; have := cn_lt (l.drop 4) 3; omega))
      (And.intro (show IntKind.u32.wrap (((cn (l.drop 4) 2 : Nat) : Int) * 2 ^ min (8 : Int).toNat IntKind.u32.bits) = ((cn (l.drop 4) 2 * 256 : Nat) : Int) from shl_8 (cn_lt (l.drop 4) 2))
      (And.intro (show IntKind.u32.wrap ((cn (l.drop 4) 2 : Nat) : Int) = ((cn (l.drop 4) 2 : Nat) : Int) from u32_wrap (by have := cn_lt (l.drop 4) 2; omega))
      (And.intro (show (0 : Int) ≤ 2 ∧ (2 : Int) < (ofL (l.drop 4)).size ∧ ((ofL (l.drop 4))[(2 : Int).toNat]?.getD 0).toNat = cn (l.drop 4) 2 from cn_at (l.drop 4) 2 (by have h4 : 4 ≤ (l.drop 4).length := h4; omega))
      (And.intro (show IntKind.u32.wrap (((BitVec.ofInt 32 ((cn (l.drop 4) 0 * 16777216 : Nat) : Int) ||| BitVec.ofInt 32 ((cn (l.drop 4) 1 * 65536 : Nat) : Int)).toNat : Nat) : Int) = (((cn (l.drop 4) 0 * 16777216) + cn (l.drop 4) 1 * 65536 : Nat) : Int) from or_u32 (cn (l.drop 4) 0 * 16777216) (cn (l.drop 4) 1 * 65536) 24 (by have := cn_lt (l.drop 4) 1; omega) (by omega) (by have := cn_lt (l.drop 4) 0; have := cn_lt (l.drop 4) 1; have := cn_lt (l.drop 4) 2; have := cn_lt (l.drop 4) 3; omega))
      (And.intro (show IntKind.u32.wrap (((cn (l.drop 4) 1 : Nat) : Int) * 2 ^ min (16 : Int).toNat IntKind.u32.bits) = ((cn (l.drop 4) 1 * 65536 : Nat) : Int) from shl_16 (cn_lt (l.drop 4) 1))
      (And.intro (show IntKind.u32.wrap ((cn (l.drop 4) 1 : Nat) : Int) = ((cn (l.drop 4) 1 : Nat) : Int) from u32_wrap (by have := cn_lt (l.drop 4) 1; omega))
      (And.intro (show (0 : Int) ≤ 1 ∧ (1 : Int) < (ofL (l.drop 4)).size ∧ ((ofL (l.drop 4))[(1 : Int).toNat]?.getD 0).toNat = cn (l.drop 4) 1 from cn_at (l.drop 4) 1 (by have h4 : 4 ≤ (l.drop 4).length := h4; omega))
      (And.intro (show IntKind.u32.wrap (((cn (l.drop 4) 0 : Nat) : Int) * 2 ^ min (24 : Int).toNat IntKind.u32.bits) = ((cn (l.drop 4) 0 * 16777216 : Nat) : Int) from shl_24 (cn_lt (l.drop 4) 0))
      (And.intro (show IntKind.u32.wrap ((cn (l.drop 4) 0 : Nat) : Int) = ((cn (l.drop 4) 0 : Nat) : Int) from u32_wrap (by have := cn_lt (l.drop 4) 0; omega))
      (And.intro (show (0 : Int) ≤ 0 ∧ (0 : Int) < (ofL (l.drop 4)).size ∧ ((ofL (l.drop 4))[(0 : Int).toNat]?.getD 0).toNat = cn (l.drop 4) 0 from cn_at (l.drop 4) 0 (by have h4 : 4 ≤ (l.drop 4).length := h4; omega))
      (And.intro (show decide ((((ofL (l.drop 4)).size : Nat) : Int) < 4) = false from decide_eq_false (by have h4 : 4 ≤ (l.drop 4).length := h4; show ¬ (((l.drop 4).length : Nat) : Int) < 4; omega))
      (And.intro (show (0 : Int) ≤ 4 ∧ (4 : Int) ≤ (ofL l).size from ⟨by decide, by show (4 : Int) ≤ ((l).length : Nat); omega⟩)
      (And.intro (show (!((ofL (l.take 4)).toList == (ofL mgW).toList)) = false from by rw [hm]; simp)
      (And.intro (show (0 : Int) ≤ 4 ∧ (4 : Int) ≤ (ofL l).size from ⟨by decide, by show (4 : Int) ≤ ((l).length : Nat); omega⟩)
      (And.intro (show decide ((((ofL l).size : Nat) : Int) < 4) = false from decide_eq_false (by show ¬ ((l.length : Nat) : Int) < 4; omega)) trivial))))))))))))))))))))))))))
theorem gn_e0p (l : List UInt8) (hn : 4 ≤ l.length) (hm : l.take 4 = mgW) (h4 : 4 ≤ (l.drop 4).length) (hN : (c4 (l.drop 4)) ≤ 64) (hx : ((l.drop 4).drop 4).length = 32 * (c4 (l.drop 4))) (hz : 0 < (c4 (l.drop 4))) (h : (nst 32 gfE (c4 (l.drop 4)) (0, ((l.drop 4).drop 4))).1 ≠ 0) : Gives Try.prog 25 [.t (.v (.string (ofL l)))] (.tp [.v (.slice none 0 0), .v (.int .i64 (nst 32 gfE (c4 (l.drop 4)) (0, ((l.drop 4).drop 4))).1)]) := by
  exact fn_gives_at (P := Try.prog) (X := rulesY _) (env := [eFGetT]) ⟨eFGetT_ok, trivial⟩ Try.func25 3 (oL [(9, wF), (14, rO 5 0), (16, wF), (21, rO 5 0), (40, wF), (51, rO 1 (cn (l.drop 4) 0)), (52, { ch := 1, hi := fun _ => cn (l.drop 4) 0 }), (53, { ch := 1, hi := fun _ => cn (l.drop 4) 0 * 16777216 }), (58, rO 1 (cn (l.drop 4) 1)), (59, { ch := 1, hi := fun _ => cn (l.drop 4) 1 }), (60, { ch := 1, hi := fun _ => cn (l.drop 4) 1 * 65536 }), (61, { ch := 1, hi := fun _ => (cn (l.drop 4) 0 * 16777216) + cn (l.drop 4) 1 * 65536 }), (66, rO 1 (cn (l.drop 4) 2)), (67, { ch := 1, hi := fun _ => cn (l.drop 4) 2 }), (68, { ch := 1, hi := fun _ => cn (l.drop 4) 2 * 256 }), (69, { ch := 1, hi := fun _ => ((cn (l.drop 4) 0 * 16777216) + cn (l.drop 4) 1 * 65536) + cn (l.drop 4) 2 * 256 }), (74, rO 1 (cn (l.drop 4) 3)), (75, { ch := 1, hi := fun _ => cn (l.drop 4) 3 }), (76, { ch := 1, hi := fun _ => c4 (l.drop 4) }), (83, rO 5 0), (89, wF), (92, { ch := 1, hi := fun _ => (c4 (l.drop 4)) }), (96, { ch := 1, hi := fun _ => (c4 (l.drop 4)) * 32 }), (104, wF), (108, lpO { I := gnZ (c4 (l.drop 4)) ((l.drop 4).drop 4) 0, ex := .exit 0, E := gnE (numC 4 (gnVs (0, ((l.drop 4).drop 4)) (c4 (l.drop 4)))) (c4 (l.drop 4)) (nst 32 gfE (c4 (l.drop 4)) (0, ((l.drop 4).drop 4))).2 (nst 32 gfE (c4 (l.drop 4)) (0, ((l.drop 4).drop 4))).1, fr := 109 }), (113, wT)]) (by kernel_rfl) ⟨_, rfl⟩
    (And.intro (show ((nst 32 gfE (c4 (l.drop 4)) (0, ((l.drop 4).drop 4))).1 != 0) = true from by simpa using h)
      (And.intro (show some (gnZ (c4 (l.drop 4)) ((l.drop 4).drop 4) 0) = some (gnZ (c4 (l.drop 4)) ((l.drop 4).drop 4) 0) from rfl)
      (And.intro (gn_all (c4 (l.drop 4)) hz (by omega) (0, ((l.drop 4).drop 4)) (fun _ => by show 32 * (c4 (l.drop 4)) ≤ ((l.drop 4).drop 4).length; omega))
      (And.intro (show ((((ofL ((l.drop 4).drop 4)).size : Nat) : Int) != (((c4 (l.drop 4)) * 32 : Nat) : Int)) = false from by
        have h1 : ((((l.drop 4).drop 4).length : Nat) : Int) = (((c4 (l.drop 4)) * 32 : Nat) : Int) := by omega
        exact ieq0 h1)
      (And.intro (show IntKind.i64.wrap ((((c4 (l.drop 4)) : Nat) : Int) * 32) = (((c4 (l.drop 4)) * 32 : Nat) : Int) from by
        rw [show (((c4 (l.drop 4)) : Nat) : Int) * 32 = (((c4 (l.drop 4)) * 32 : Nat) : Int) by omega]
        exact i64_wrap (by omega))
      (And.intro (show IntKind.i64.wrap (((c4 (l.drop 4)) : Nat) : Int) = (((c4 (l.drop 4)) : Nat) : Int) from i64_wrap (by omega))
      (And.intro (show decide (((c4 (l.drop 4) : Nat) : Int) > 64) = false from decide_eq_false (by omega))
      (And.intro (show (0 : Int) ≤ 4 ∧ (4 : Int) ≤ (ofL (l.drop 4)).size from ⟨by decide, by show (4 : Int) ≤ (((l.drop 4)).length : Nat); have h4 : 4 ≤ (l.drop 4).length := h4; omega⟩)
      (And.intro (show IntKind.u32.wrap (((BitVec.ofInt 32 ((((cn (l.drop 4) 0 * 16777216) + cn (l.drop 4) 1 * 65536) + cn (l.drop 4) 2 * 256 : Nat) : Int) ||| BitVec.ofInt 32 ((cn (l.drop 4) 3 : Nat) : Int)).toNat : Nat) : Int) = ((c4 (l.drop 4) : Nat) : Int) from or_u32 (((cn (l.drop 4) 0 * 16777216) + cn (l.drop 4) 1 * 65536) + cn (l.drop 4) 2 * 256) (cn (l.drop 4) 3) 8 (by have := cn_lt (l.drop 4) 3; omega) (by omega) (by have := cn_lt (l.drop 4) 0; have := cn_lt (l.drop 4) 1; have := cn_lt (l.drop 4) 2; have := cn_lt (l.drop 4) 3; omega))
      (And.intro (show IntKind.u32.wrap ((cn (l.drop 4) 3 : Nat) : Int) = ((cn (l.drop 4) 3 : Nat) : Int) from u32_wrap (by have := cn_lt (l.drop 4) 3; omega))
      (And.intro (show (0 : Int) ≤ 3 ∧ (3 : Int) < (ofL (l.drop 4)).size ∧ ((ofL (l.drop 4))[(3 : Int).toNat]?.getD 0).toNat = cn (l.drop 4) 3 from cn_at (l.drop 4) 3 (by have h4 : 4 ≤ (l.drop 4).length := h4; omega))
      (And.intro (show IntKind.u32.wrap (((BitVec.ofInt 32 (((cn (l.drop 4) 0 * 16777216) + cn (l.drop 4) 1 * 65536 : Nat) : Int) ||| BitVec.ofInt 32 ((cn (l.drop 4) 2 * 256 : Nat) : Int)).toNat : Nat) : Int) = ((((cn (l.drop 4) 0 * 16777216) + cn (l.drop 4) 1 * 65536) + cn (l.drop 4) 2 * 256 : Nat) : Int) from or_u32 ((cn (l.drop 4) 0 * 16777216) + cn (l.drop 4) 1 * 65536) (cn (l.drop 4) 2 * 256) 16 (by have := cn_lt (l.drop 4) 2; omega) (by omega) (by have := cn_lt (l.drop 4) 0; have := cn_lt (l.drop 4) 1; have := cn_lt (l.drop 4) 2; have := cn_lt (l.drop 4) 3; omega))
      (And.intro (show IntKind.u32.wrap (((cn (l.drop 4) 2 : Nat) : Int) * 2 ^ min (8 : Int).toNat IntKind.u32.bits) = ((cn (l.drop 4) 2 * 256 : Nat) : Int) from shl_8 (cn_lt (l.drop 4) 2))
      (And.intro (show IntKind.u32.wrap ((cn (l.drop 4) 2 : Nat) : Int) = ((cn (l.drop 4) 2 : Nat) : Int) from u32_wrap (by have := cn_lt (l.drop 4) 2; omega))
      (And.intro (show (0 : Int) ≤ 2 ∧ (2 : Int) < (ofL (l.drop 4)).size ∧ ((ofL (l.drop 4))[(2 : Int).toNat]?.getD 0).toNat = cn (l.drop 4) 2 from cn_at (l.drop 4) 2 (by have h4 : 4 ≤ (l.drop 4).length := h4; omega))
      (And.intro (show IntKind.u32.wrap (((BitVec.ofInt 32 ((cn (l.drop 4) 0 * 16777216 : Nat) : Int) ||| BitVec.ofInt 32 ((cn (l.drop 4) 1 * 65536 : Nat) : Int)).toNat : Nat) : Int) = (((cn (l.drop 4) 0 * 16777216) + cn (l.drop 4) 1 * 65536 : Nat) : Int) from or_u32 (cn (l.drop 4) 0 * 16777216) (cn (l.drop 4) 1 * 65536) 24 (by have := cn_lt (l.drop 4) 1; omega) (by omega) (by have := cn_lt (l.drop 4) 0; have := cn_lt (l.drop 4) 1; have := cn_lt (l.drop 4) 2; have := cn_lt (l.drop 4) 3; omega))
      (And.intro (show IntKind.u32.wrap (((cn (l.drop 4) 1 : Nat) : Int) * 2 ^ min (16 : Int).toNat IntKind.u32.bits) = ((cn (l.drop 4) 1 * 65536 : Nat) : Int) from shl_16 (cn_lt (l.drop 4) 1))
      (And.intro (show IntKind.u32.wrap ((cn (l.drop 4) 1 : Nat) : Int) = ((cn (l.drop 4) 1 : Nat) : Int) from u32_wrap (by have := cn_lt (l.drop 4) 1; omega))
      (And.intro (show (0 : Int) ≤ 1 ∧ (1 : Int) < (ofL (l.drop 4)).size ∧ ((ofL (l.drop 4))[(1 : Int).toNat]?.getD 0).toNat = cn (l.drop 4) 1 from cn_at (l.drop 4) 1 (by have h4 : 4 ≤ (l.drop 4).length := h4; omega))
      (And.intro (show IntKind.u32.wrap (((cn (l.drop 4) 0 : Nat) : Int) * 2 ^ min (24 : Int).toNat IntKind.u32.bits) = ((cn (l.drop 4) 0 * 16777216 : Nat) : Int) from shl_24 (cn_lt (l.drop 4) 0))
      (And.intro (show IntKind.u32.wrap ((cn (l.drop 4) 0 : Nat) : Int) = ((cn (l.drop 4) 0 : Nat) : Int) from u32_wrap (by have := cn_lt (l.drop 4) 0; omega))
      (And.intro (show (0 : Int) ≤ 0 ∧ (0 : Int) < (ofL (l.drop 4)).size ∧ ((ofL (l.drop 4))[(0 : Int).toNat]?.getD 0).toNat = cn (l.drop 4) 0 from cn_at (l.drop 4) 0 (by have h4 : 4 ≤ (l.drop 4).length := h4; omega))
      (And.intro (show decide ((((ofL (l.drop 4)).size : Nat) : Int) < 4) = false from decide_eq_false (by have h4 : 4 ≤ (l.drop 4).length := h4; show ¬ (((l.drop 4).length : Nat) : Int) < 4; omega))
      (And.intro (show (0 : Int) ≤ 4 ∧ (4 : Int) ≤ (ofL l).size from ⟨by decide, by show (4 : Int) ≤ ((l).length : Nat); omega⟩)
      (And.intro (show (!((ofL (l.take 4)).toList == (ofL mgW).toList)) = false from by rw [hm]; simp)
      (And.intro (show (0 : Int) ≤ 4 ∧ (4 : Int) ≤ (ofL l).size from ⟨by decide, by show (4 : Int) ≤ ((l).length : Nat); omega⟩)
      (And.intro (show decide ((((ofL l).size : Nat) : Int) < 4) = false from decide_eq_false (by show ¬ ((l.length : Nat) : Int) < 4; omega)) trivial)))))))))))))))))))))))))))
theorem gn_ok (l : List UInt8) (hn : 4 ≤ l.length) (hm : l.take 4 = mgW) (h4 : 4 ≤ (l.drop 4).length) (hN : (c4 (l.drop 4)) ≤ 64) (hx : ((l.drop 4).drop 4).length = 32 * (c4 (l.drop 4))) (hz : 0 < (c4 (l.drop 4))) (h : (nst 32 gfE (c4 (l.drop 4)) (0, ((l.drop 4).drop 4))).1 = 0) : GivesN Try.prog 25 [.t (.v (.string (ofL l)))] (fun k => .tp [.sx k (c4 (l.drop 4)), .v (.int .i64 0)]) (.gr [.l (numC 4 (gnVs (0, ((l.drop 4).drop 4)) (c4 (l.drop 4))))] 32 4) :=
  fnN_gives (P := Try.prog) (X := rulesY _) (env := [eFGetT]) ⟨eFGetT_ok, trivial⟩ Try.func25 (fun args w => Go.Proofs.enters_of (P := Try.prog) Try.func25 (by kernel_rfl) rfl args w) 3 (oL [(9, wF), (14, rO 5 0), (16, wF), (21, rO 5 0), (40, wF), (51, rO 1 (cn (l.drop 4) 0)), (52, { ch := 1, hi := fun _ => cn (l.drop 4) 0 }), (53, { ch := 1, hi := fun _ => cn (l.drop 4) 0 * 16777216 }), (58, rO 1 (cn (l.drop 4) 1)), (59, { ch := 1, hi := fun _ => cn (l.drop 4) 1 }), (60, { ch := 1, hi := fun _ => cn (l.drop 4) 1 * 65536 }), (61, { ch := 1, hi := fun _ => (cn (l.drop 4) 0 * 16777216) + cn (l.drop 4) 1 * 65536 }), (66, rO 1 (cn (l.drop 4) 2)), (67, { ch := 1, hi := fun _ => cn (l.drop 4) 2 }), (68, { ch := 1, hi := fun _ => cn (l.drop 4) 2 * 256 }), (69, { ch := 1, hi := fun _ => ((cn (l.drop 4) 0 * 16777216) + cn (l.drop 4) 1 * 65536) + cn (l.drop 4) 2 * 256 }), (74, rO 1 (cn (l.drop 4) 3)), (75, { ch := 1, hi := fun _ => cn (l.drop 4) 3 }), (76, { ch := 1, hi := fun _ => c4 (l.drop 4) }), (83, rO 5 0), (89, wF), (92, { ch := 1, hi := fun _ => (c4 (l.drop 4)) }), (96, { ch := 1, hi := fun _ => (c4 (l.drop 4)) * 32 }), (104, wF), (108, lpO { I := gnZ (c4 (l.drop 4)) ((l.drop 4).drop 4) 0, ex := .exit 0, E := gnE (numC 4 (gnVs (0, ((l.drop 4).drop 4)) (c4 (l.drop 4)))) (c4 (l.drop 4)) (nst 32 gfE (c4 (l.drop 4)) (0, ((l.drop 4).drop 4))).2 (nst 32 gfE (c4 (l.drop 4)) (0, ((l.drop 4).drop 4))).1, fr := 109 }), (113, wF)]) (r0 := .tp [.sx 24 (c4 (l.drop 4)), .v (.int .i64 0)]) 24 (by kernel_rfl) rfl
    (And.intro (show ((nst 32 gfE (c4 (l.drop 4)) (0, ((l.drop 4).drop 4))).1 != 0) = false from by rw [h]; rfl)
      (And.intro (show some (gnZ (c4 (l.drop 4)) ((l.drop 4).drop 4) 0) = some (gnZ (c4 (l.drop 4)) ((l.drop 4).drop 4) 0) from rfl)
      (And.intro (gn_all (c4 (l.drop 4)) hz (by omega) (0, ((l.drop 4).drop 4)) (fun _ => by show 32 * (c4 (l.drop 4)) ≤ ((l.drop 4).drop 4).length; omega))
      (And.intro (show ((((ofL ((l.drop 4).drop 4)).size : Nat) : Int) != (((c4 (l.drop 4)) * 32 : Nat) : Int)) = false from by
        have h1 : ((((l.drop 4).drop 4).length : Nat) : Int) = (((c4 (l.drop 4)) * 32 : Nat) : Int) := by omega
        exact ieq0 h1)
      (And.intro (show IntKind.i64.wrap ((((c4 (l.drop 4)) : Nat) : Int) * 32) = (((c4 (l.drop 4)) * 32 : Nat) : Int) from by
        rw [show (((c4 (l.drop 4)) : Nat) : Int) * 32 = (((c4 (l.drop 4)) * 32 : Nat) : Int) by omega]
        exact i64_wrap (by omega))
      (And.intro (show IntKind.i64.wrap (((c4 (l.drop 4)) : Nat) : Int) = (((c4 (l.drop 4)) : Nat) : Int) from i64_wrap (by omega))
      (And.intro (show decide (((c4 (l.drop 4) : Nat) : Int) > 64) = false from decide_eq_false (by omega))
      (And.intro (show (0 : Int) ≤ 4 ∧ (4 : Int) ≤ (ofL (l.drop 4)).size from ⟨by decide, by show (4 : Int) ≤ (((l.drop 4)).length : Nat); have h4 : 4 ≤ (l.drop 4).length := h4; omega⟩)
      (And.intro (show IntKind.u32.wrap (((BitVec.ofInt 32 ((((cn (l.drop 4) 0 * 16777216) + cn (l.drop 4) 1 * 65536) + cn (l.drop 4) 2 * 256 : Nat) : Int) ||| BitVec.ofInt 32 ((cn (l.drop 4) 3 : Nat) : Int)).toNat : Nat) : Int) = ((c4 (l.drop 4) : Nat) : Int) from or_u32 (((cn (l.drop 4) 0 * 16777216) + cn (l.drop 4) 1 * 65536) + cn (l.drop 4) 2 * 256) (cn (l.drop 4) 3) 8 (by have := cn_lt (l.drop 4) 3; omega) (by omega) (by have := cn_lt (l.drop 4) 0; have := cn_lt (l.drop 4) 1; have := cn_lt (l.drop 4) 2; have := cn_lt (l.drop 4) 3; omega))
      (And.intro (show IntKind.u32.wrap ((cn (l.drop 4) 3 : Nat) : Int) = ((cn (l.drop 4) 3 : Nat) : Int) from u32_wrap (by have := cn_lt (l.drop 4) 3; omega))
      (And.intro (show (0 : Int) ≤ 3 ∧ (3 : Int) < (ofL (l.drop 4)).size ∧ ((ofL (l.drop 4))[(3 : Int).toNat]?.getD 0).toNat = cn (l.drop 4) 3 from cn_at (l.drop 4) 3 (by have h4 : 4 ≤ (l.drop 4).length := h4; omega))
      (And.intro (show IntKind.u32.wrap (((BitVec.ofInt 32 (((cn (l.drop 4) 0 * 16777216) + cn (l.drop 4) 1 * 65536 : Nat) : Int) ||| BitVec.ofInt 32 ((cn (l.drop 4) 2 * 256 : Nat) : Int)).toNat : Nat) : Int) = ((((cn (l.drop 4) 0 * 16777216) + cn (l.drop 4) 1 * 65536) + cn (l.drop 4) 2 * 256 : Nat) : Int) from or_u32 ((cn (l.drop 4) 0 * 16777216) + cn (l.drop 4) 1 * 65536) (cn (l.drop 4) 2 * 256) 16 (by have := cn_lt (l.drop 4) 2; omega) (by omega) (by have := cn_lt (l.drop 4) 0; have := cn_lt (l.drop 4) 1; have := cn_lt (l.drop 4) 2; have := cn_lt (l.drop 4) 3; omega))
      (And.intro (show IntKind.u32.wrap (((cn (l.drop 4) 2 : Nat) : Int) * 2 ^ min (8 : Int).toNat IntKind.u32.bits) = ((cn (l.drop 4) 2 * 256 : Nat) : Int) from shl_8 (cn_lt (l.drop 4) 2))
      (And.intro (show IntKind.u32.wrap ((cn (l.drop 4) 2 : Nat) : Int) = ((cn (l.drop 4) 2 : Nat) : Int) from u32_wrap (by have := cn_lt (l.drop 4) 2; omega))
      (And.intro (show (0 : Int) ≤ 2 ∧ (2 : Int) < (ofL (l.drop 4)).size ∧ ((ofL (l.drop 4))[(2 : Int).toNat]?.getD 0).toNat = cn (l.drop 4) 2 from cn_at (l.drop 4) 2 (by have h4 : 4 ≤ (l.drop 4).length := h4; omega))
      (And.intro (show IntKind.u32.wrap (((BitVec.ofInt 32 ((cn (l.drop 4) 0 * 16777216 : Nat) : Int) ||| BitVec.ofInt 32 ((cn (l.drop 4) 1 * 65536 : Nat) : Int)).toNat : Nat) : Int) = (((cn (l.drop 4) 0 * 16777216) + cn (l.drop 4) 1 * 65536 : Nat) : Int) from or_u32 (cn (l.drop 4) 0 * 16777216) (cn (l.drop 4) 1 * 65536) 24 (by have := cn_lt (l.drop 4) 1; omega) (by omega) (by have := cn_lt (l.drop 4) 0; have := cn_lt (l.drop 4) 1; have := cn_lt (l.drop 4) 2; have := cn_lt (l.drop 4) 3; omega))
      (And.intro (show IntKind.u32.wrap (((cn (l.drop 4) 1 : Nat) : Int) * 2 ^ min (16 : Int).toNat IntKind.u32.bits) = ((cn (l.drop 4) 1 * 65536 : Nat) : Int) from shl_16 (cn_lt (l.drop 4) 1))
      (And.intro (show IntKind.u32.wrap ((cn (l.drop 4) 1 : Nat) : Int) = ((cn (l.drop 4) 1 : Nat) : Int) from u32_wrap (by have := cn_lt (l.drop 4) 1; omega))
      (And.intro (show (0 : Int) ≤ 1 ∧ (1 : Int) < (ofL (l.drop 4)).size ∧ ((ofL (l.drop 4))[(1 : Int).toNat]?.getD 0).toNat = cn (l.drop 4) 1 from cn_at (l.drop 4) 1 (by have h4 : 4 ≤ (l.drop 4).length := h4; omega))
      (And.intro (show IntKind.u32.wrap (((cn (l.drop 4) 0 : Nat) : Int) * 2 ^ min (24 : Int).toNat IntKind.u32.bits) = ((cn (l.drop 4) 0 * 16777216 : Nat) : Int) from shl_24 (cn_lt (l.drop 4) 0))
      (And.intro (show IntKind.u32.wrap ((cn (l.drop 4) 0 : Nat) : Int) = ((cn (l.drop 4) 0 : Nat) : Int) from u32_wrap (by have := cn_lt (l.drop 4) 0; omega))
      (And.intro (show (0 : Int) ≤ 0 ∧ (0 : Int) < (ofL (l.drop 4)).size ∧ ((ofL (l.drop 4))[(0 : Int).toNat]?.getD 0).toNat = cn (l.drop 4) 0 from cn_at (l.drop 4) 0 (by have h4 : 4 ≤ (l.drop 4).length := h4; omega))
      (And.intro (show decide ((((ofL (l.drop 4)).size : Nat) : Int) < 4) = false from decide_eq_false (by have h4 : 4 ≤ (l.drop 4).length := h4; show ¬ (((l.drop 4).length : Nat) : Int) < 4; omega))
      (And.intro (show (0 : Int) ≤ 4 ∧ (4 : Int) ≤ (ofL l).size from ⟨by decide, by show (4 : Int) ≤ ((l).length : Nat); omega⟩)
      (And.intro (show (!((ofL (l.take 4)).toList == (ofL mgW).toList)) = false from by rw [hm]; simp)
      (And.intro (show (0 : Int) ≤ 4 ∧ (4 : Int) ≤ (ofL l).size from ⟨by decide, by show (4 : Int) ≤ ((l).length : Nat); omega⟩)
      (And.intro (show decide ((((ofL l).size : Nat) : Int) < 4) = false from decide_eq_false (by show ¬ ((l.length : Nat) : Int) < 4; omega)) trivial))))))))))))))))))))))))))) _ (fun ρ ρ' k u v h1 h2 h3 => mv_sx1 ρ ρ' k u v h1 h2 h3)
theorem gn_e1z (l : List UInt8) (hn : 4 ≤ l.length) (hm : l.take 4 = mgW) (h4 : 4 ≤ (l.drop 4).length) (hN : (c4 (l.drop 4)) ≤ 64) (hx : ((l.drop 4).drop 4).length ≠ 32 * (c4 (l.drop 4))) (hz : (c4 (l.drop 4)) = 0) : Gives Try.prog 25 [.t (.v (.string (ofL l)))] (.tp [.v (.slice none 0 0), .v (.int .i64 3)]) := by
  exact fn_gives_at (P := Try.prog) (X := rulesY _) (env := [eFGetT]) ⟨eFGetT_ok, trivial⟩ Try.func25 3 (oL [(9, wF), (14, rO 5 0), (16, wF), (21, rO 5 0), (40, wF), (51, rO 1 (cn (l.drop 4) 0)), (52, { ch := 1, hi := fun _ => cn (l.drop 4) 0 }), (53, { ch := 1, hi := fun _ => cn (l.drop 4) 0 * 16777216 }), (58, rO 1 (cn (l.drop 4) 1)), (59, { ch := 1, hi := fun _ => cn (l.drop 4) 1 }), (60, { ch := 1, hi := fun _ => cn (l.drop 4) 1 * 65536 }), (61, { ch := 1, hi := fun _ => (cn (l.drop 4) 0 * 16777216) + cn (l.drop 4) 1 * 65536 }), (66, rO 1 (cn (l.drop 4) 2)), (67, { ch := 1, hi := fun _ => cn (l.drop 4) 2 }), (68, { ch := 1, hi := fun _ => cn (l.drop 4) 2 * 256 }), (69, { ch := 1, hi := fun _ => ((cn (l.drop 4) 0 * 16777216) + cn (l.drop 4) 1 * 65536) + cn (l.drop 4) 2 * 256 }), (74, rO 1 (cn (l.drop 4) 3)), (75, { ch := 1, hi := fun _ => cn (l.drop 4) 3 }), (76, { ch := 1, hi := fun _ => c4 (l.drop 4) }), (83, rO 5 0), (89, wF), (92, { ch := 1, hi := fun _ => (c4 (l.drop 4)) }), (96, { ch := 1, hi := fun _ => (c4 (l.drop 4)) * 32 }), (104, wT), (120, lpO { I := gnZ (c4 (l.drop 4)) ((l.drop 4).drop 4) 3, ex := .exit 0, E := gnE0 ((l.drop 4).drop 4) 3, fr := 121 })]) (by kernel_rfl) ⟨_, rfl⟩
    (And.intro (show some (gnZ (c4 (l.drop 4)) ((l.drop 4).drop 4) 3) = some (gnZ (c4 (l.drop 4)) ((l.drop 4).drop 4) 3) from rfl)
      (And.intro (loop_now (gn_end0 (c4 (l.drop 4)) hz ((l.drop 4).drop 4) 3))
      (And.intro (show ((((ofL ((l.drop 4).drop 4)).size : Nat) : Int) != (((c4 (l.drop 4)) * 32 : Nat) : Int)) = true from by
        have h1 : ((((l.drop 4).drop 4).length : Nat) : Int) ≠ (((c4 (l.drop 4)) * 32 : Nat) : Int) := by omega
        exact bne_iff_ne.2 h1)
      (And.intro (show IntKind.i64.wrap ((((c4 (l.drop 4)) : Nat) : Int) * 32) = (((c4 (l.drop 4)) * 32 : Nat) : Int) from by
        rw [show (((c4 (l.drop 4)) : Nat) : Int) * 32 = (((c4 (l.drop 4)) * 32 : Nat) : Int) by omega]
        exact i64_wrap (by omega))
      (And.intro (show IntKind.i64.wrap (((c4 (l.drop 4)) : Nat) : Int) = (((c4 (l.drop 4)) : Nat) : Int) from i64_wrap (by omega))
      (And.intro (show decide (((c4 (l.drop 4) : Nat) : Int) > 64) = false from decide_eq_false (by omega))
      (And.intro (show (0 : Int) ≤ 4 ∧ (4 : Int) ≤ (ofL (l.drop 4)).size from ⟨by decide, by show (4 : Int) ≤ (((l.drop 4)).length : Nat); have h4 : 4 ≤ (l.drop 4).length := h4; omega⟩)
      (And.intro (show IntKind.u32.wrap (((BitVec.ofInt 32 ((((cn (l.drop 4) 0 * 16777216) + cn (l.drop 4) 1 * 65536) + cn (l.drop 4) 2 * 256 : Nat) : Int) ||| BitVec.ofInt 32 ((cn (l.drop 4) 3 : Nat) : Int)).toNat : Nat) : Int) = ((c4 (l.drop 4) : Nat) : Int) from or_u32 (((cn (l.drop 4) 0 * 16777216) + cn (l.drop 4) 1 * 65536) + cn (l.drop 4) 2 * 256) (cn (l.drop 4) 3) 8 (by have := cn_lt (l.drop 4) 3; omega) (by omega) (by have := cn_lt (l.drop 4) 0; have := cn_lt (l.drop 4) 1; have := cn_lt (l.drop 4) 2; have := cn_lt (l.drop 4) 3; omega))
      (And.intro (show IntKind.u32.wrap ((cn (l.drop 4) 3 : Nat) : Int) = ((cn (l.drop 4) 3 : Nat) : Int) from u32_wrap (by have := cn_lt (l.drop 4) 3; omega))
      (And.intro (show (0 : Int) ≤ 3 ∧ (3 : Int) < (ofL (l.drop 4)).size ∧ ((ofL (l.drop 4))[(3 : Int).toNat]?.getD 0).toNat = cn (l.drop 4) 3 from cn_at (l.drop 4) 3 (by have h4 : 4 ≤ (l.drop 4).length := h4; omega))
      (And.intro (show IntKind.u32.wrap (((BitVec.ofInt 32 (((cn (l.drop 4) 0 * 16777216) + cn (l.drop 4) 1 * 65536 : Nat) : Int) ||| BitVec.ofInt 32 ((cn (l.drop 4) 2 * 256 : Nat) : Int)).toNat : Nat) : Int) = ((((cn (l.drop 4) 0 * 16777216) + cn (l.drop 4) 1 * 65536) + cn (l.drop 4) 2 * 256 : Nat) : Int) from or_u32 ((cn (l.drop 4) 0 * 16777216) + cn (l.drop 4) 1 * 65536) (cn (l.drop 4) 2 * 256) 16 (by have := cn_lt (l.drop 4) 2; omega) (by omega) (by have := cn_lt (l.drop 4) 0; have := cn_lt (l.drop 4) 1; have := cn_lt (l.drop 4) 2; have := cn_lt (l.drop 4) 3; omega))
      (And.intro (show IntKind.u32.wrap (((cn (l.drop 4) 2 : Nat) : Int) * 2 ^ min (8 : Int).toNat IntKind.u32.bits) = ((cn (l.drop 4) 2 * 256 : Nat) : Int) from shl_8 (cn_lt (l.drop 4) 2))
      (And.intro (show IntKind.u32.wrap ((cn (l.drop 4) 2 : Nat) : Int) = ((cn (l.drop 4) 2 : Nat) : Int) from u32_wrap (by have := cn_lt (l.drop 4) 2; omega))
      (And.intro (show (0 : Int) ≤ 2 ∧ (2 : Int) < (ofL (l.drop 4)).size ∧ ((ofL (l.drop 4))[(2 : Int).toNat]?.getD 0).toNat = cn (l.drop 4) 2 from cn_at (l.drop 4) 2 (by have h4 : 4 ≤ (l.drop 4).length := h4; omega))
      (And.intro (show IntKind.u32.wrap (((BitVec.ofInt 32 ((cn (l.drop 4) 0 * 16777216 : Nat) : Int) ||| BitVec.ofInt 32 ((cn (l.drop 4) 1 * 65536 : Nat) : Int)).toNat : Nat) : Int) = (((cn (l.drop 4) 0 * 16777216) + cn (l.drop 4) 1 * 65536 : Nat) : Int) from or_u32 (cn (l.drop 4) 0 * 16777216) (cn (l.drop 4) 1 * 65536) 24 (by have := cn_lt (l.drop 4) 1; omega) (by omega) (by have := cn_lt (l.drop 4) 0; have := cn_lt (l.drop 4) 1; have := cn_lt (l.drop 4) 2; have := cn_lt (l.drop 4) 3; omega))
      (And.intro (show IntKind.u32.wrap (((cn (l.drop 4) 1 : Nat) : Int) * 2 ^ min (16 : Int).toNat IntKind.u32.bits) = ((cn (l.drop 4) 1 * 65536 : Nat) : Int) from shl_16 (cn_lt (l.drop 4) 1))
      (And.intro (show IntKind.u32.wrap ((cn (l.drop 4) 1 : Nat) : Int) = ((cn (l.drop 4) 1 : Nat) : Int) from u32_wrap (by have := cn_lt (l.drop 4) 1; omega))
      (And.intro (show (0 : Int) ≤ 1 ∧ (1 : Int) < (ofL (l.drop 4)).size ∧ ((ofL (l.drop 4))[(1 : Int).toNat]?.getD 0).toNat = cn (l.drop 4) 1 from cn_at (l.drop 4) 1 (by have h4 : 4 ≤ (l.drop 4).length := h4; omega))
      (And.intro (show IntKind.u32.wrap (((cn (l.drop 4) 0 : Nat) : Int) * 2 ^ min (24 : Int).toNat IntKind.u32.bits) = ((cn (l.drop 4) 0 * 16777216 : Nat) : Int) from shl_24 (cn_lt (l.drop 4) 0))
      (And.intro (show IntKind.u32.wrap ((cn (l.drop 4) 0 : Nat) : Int) = ((cn (l.drop 4) 0 : Nat) : Int) from u32_wrap (by have := cn_lt (l.drop 4) 0; omega))
      (And.intro (show (0 : Int) ≤ 0 ∧ (0 : Int) < (ofL (l.drop 4)).size ∧ ((ofL (l.drop 4))[(0 : Int).toNat]?.getD 0).toNat = cn (l.drop 4) 0 from cn_at (l.drop 4) 0 (by have h4 : 4 ≤ (l.drop 4).length := h4; omega))
      (And.intro (show decide ((((ofL (l.drop 4)).size : Nat) : Int) < 4) = false from decide_eq_false (by have h4 : 4 ≤ (l.drop 4).length := h4; show ¬ (((l.drop 4).length : Nat) : Int) < 4; omega))
      (And.intro (show (0 : Int) ≤ 4 ∧ (4 : Int) ≤ (ofL l).size from ⟨by decide, by show (4 : Int) ≤ ((l).length : Nat); omega⟩)
      (And.intro (show (!((ofL (l.take 4)).toList == (ofL mgW).toList)) = false from by rw [hm]; simp)
      (And.intro (show (0 : Int) ≤ 4 ∧ (4 : Int) ≤ (ofL l).size from ⟨by decide, by show (4 : Int) ≤ ((l).length : Nat); omega⟩)
      (And.intro (show decide ((((ofL l).size : Nat) : Int) < 4) = false from decide_eq_false (by show ¬ ((l.length : Nat) : Int) < 4; omega)) trivial))))))))))))))))))))))))))
theorem gn_e1p (l : List UInt8) (hn : 4 ≤ l.length) (hm : l.take 4 = mgW) (h4 : 4 ≤ (l.drop 4).length) (hN : (c4 (l.drop 4)) ≤ 64) (hx : ((l.drop 4).drop 4).length ≠ 32 * (c4 (l.drop 4))) (hz : 0 < (c4 (l.drop 4))) : Gives Try.prog 25 [.t (.v (.string (ofL l)))] (.tp [.v (.slice none 0 0), .v (.int .i64 (nst 32 gfE (c4 (l.drop 4)) (3, ((l.drop 4).drop 4))).1)]) := by
  exact fn_gives_at (P := Try.prog) (X := rulesY _) (env := [eFGetT]) ⟨eFGetT_ok, trivial⟩ Try.func25 3 (oL [(9, wF), (14, rO 5 0), (16, wF), (21, rO 5 0), (40, wF), (51, rO 1 (cn (l.drop 4) 0)), (52, { ch := 1, hi := fun _ => cn (l.drop 4) 0 }), (53, { ch := 1, hi := fun _ => cn (l.drop 4) 0 * 16777216 }), (58, rO 1 (cn (l.drop 4) 1)), (59, { ch := 1, hi := fun _ => cn (l.drop 4) 1 }), (60, { ch := 1, hi := fun _ => cn (l.drop 4) 1 * 65536 }), (61, { ch := 1, hi := fun _ => (cn (l.drop 4) 0 * 16777216) + cn (l.drop 4) 1 * 65536 }), (66, rO 1 (cn (l.drop 4) 2)), (67, { ch := 1, hi := fun _ => cn (l.drop 4) 2 }), (68, { ch := 1, hi := fun _ => cn (l.drop 4) 2 * 256 }), (69, { ch := 1, hi := fun _ => ((cn (l.drop 4) 0 * 16777216) + cn (l.drop 4) 1 * 65536) + cn (l.drop 4) 2 * 256 }), (74, rO 1 (cn (l.drop 4) 3)), (75, { ch := 1, hi := fun _ => cn (l.drop 4) 3 }), (76, { ch := 1, hi := fun _ => c4 (l.drop 4) }), (83, rO 5 0), (89, wF), (92, { ch := 1, hi := fun _ => (c4 (l.drop 4)) }), (96, { ch := 1, hi := fun _ => (c4 (l.drop 4)) * 32 }), (104, wT), (120, lpO { I := gnZ (c4 (l.drop 4)) ((l.drop 4).drop 4) 3, ex := .exit 0, E := gnE (numC 4 (gnVs (3, ((l.drop 4).drop 4)) (c4 (l.drop 4)))) (c4 (l.drop 4)) (nst 32 gfE (c4 (l.drop 4)) (3, ((l.drop 4).drop 4))).2 (nst 32 gfE (c4 (l.drop 4)) (3, ((l.drop 4).drop 4))).1, fr := 121 }), (125, wT)]) (by kernel_rfl) ⟨_, rfl⟩
    (And.intro (show ((nst 32 gfE (c4 (l.drop 4)) (3, ((l.drop 4).drop 4))).1 != 0) = true from by rw [nst_bad (show ((3, ((l.drop 4).drop 4)) : Int × List UInt8).1 ≠ 0 from (by show (3 : Int) ≠ 0; decide))]; rfl)
      (And.intro (show some (gnZ (c4 (l.drop 4)) ((l.drop 4).drop 4) 3) = some (gnZ (c4 (l.drop 4)) ((l.drop 4).drop 4) 3) from rfl)
      (And.intro (gn_all (c4 (l.drop 4)) hz (by omega) (3, ((l.drop 4).drop 4)) (fun h => by exact absurd (show (3 : Int) = 0 from h) (by decide)))
      (And.intro (show ((((ofL ((l.drop 4).drop 4)).size : Nat) : Int) != (((c4 (l.drop 4)) * 32 : Nat) : Int)) = true from by
        have h1 : ((((l.drop 4).drop 4).length : Nat) : Int) ≠ (((c4 (l.drop 4)) * 32 : Nat) : Int) := by omega
        exact bne_iff_ne.2 h1)
      (And.intro (show IntKind.i64.wrap ((((c4 (l.drop 4)) : Nat) : Int) * 32) = (((c4 (l.drop 4)) * 32 : Nat) : Int) from by
        rw [show (((c4 (l.drop 4)) : Nat) : Int) * 32 = (((c4 (l.drop 4)) * 32 : Nat) : Int) by omega]
        exact i64_wrap (by omega))
      (And.intro (show IntKind.i64.wrap (((c4 (l.drop 4)) : Nat) : Int) = (((c4 (l.drop 4)) : Nat) : Int) from i64_wrap (by omega))
      (And.intro (show decide (((c4 (l.drop 4) : Nat) : Int) > 64) = false from decide_eq_false (by omega))
      (And.intro (show (0 : Int) ≤ 4 ∧ (4 : Int) ≤ (ofL (l.drop 4)).size from ⟨by decide, by show (4 : Int) ≤ (((l.drop 4)).length : Nat); have h4 : 4 ≤ (l.drop 4).length := h4; omega⟩)
      (And.intro (show IntKind.u32.wrap (((BitVec.ofInt 32 ((((cn (l.drop 4) 0 * 16777216) + cn (l.drop 4) 1 * 65536) + cn (l.drop 4) 2 * 256 : Nat) : Int) ||| BitVec.ofInt 32 ((cn (l.drop 4) 3 : Nat) : Int)).toNat : Nat) : Int) = ((c4 (l.drop 4) : Nat) : Int) from or_u32 (((cn (l.drop 4) 0 * 16777216) + cn (l.drop 4) 1 * 65536) + cn (l.drop 4) 2 * 256) (cn (l.drop 4) 3) 8 (by have := cn_lt (l.drop 4) 3; omega) (by omega) (by have := cn_lt (l.drop 4) 0; have := cn_lt (l.drop 4) 1; have := cn_lt (l.drop 4) 2; have := cn_lt (l.drop 4) 3; omega))
      (And.intro (show IntKind.u32.wrap ((cn (l.drop 4) 3 : Nat) : Int) = ((cn (l.drop 4) 3 : Nat) : Int) from u32_wrap (by have := cn_lt (l.drop 4) 3; omega))
      (And.intro (show (0 : Int) ≤ 3 ∧ (3 : Int) < (ofL (l.drop 4)).size ∧ ((ofL (l.drop 4))[(3 : Int).toNat]?.getD 0).toNat = cn (l.drop 4) 3 from cn_at (l.drop 4) 3 (by have h4 : 4 ≤ (l.drop 4).length := h4; omega))
      (And.intro (show IntKind.u32.wrap (((BitVec.ofInt 32 (((cn (l.drop 4) 0 * 16777216) + cn (l.drop 4) 1 * 65536 : Nat) : Int) ||| BitVec.ofInt 32 ((cn (l.drop 4) 2 * 256 : Nat) : Int)).toNat : Nat) : Int) = ((((cn (l.drop 4) 0 * 16777216) + cn (l.drop 4) 1 * 65536) + cn (l.drop 4) 2 * 256 : Nat) : Int) from or_u32 ((cn (l.drop 4) 0 * 16777216) + cn (l.drop 4) 1 * 65536) (cn (l.drop 4) 2 * 256) 16 (by have := cn_lt (l.drop 4) 2; omega) (by omega) (by have := cn_lt (l.drop 4) 0; have := cn_lt (l.drop 4) 1; have := cn_lt (l.drop 4) 2; have := cn_lt (l.drop 4) 3; omega))
      (And.intro (show IntKind.u32.wrap (((cn (l.drop 4) 2 : Nat) : Int) * 2 ^ min (8 : Int).toNat IntKind.u32.bits) = ((cn (l.drop 4) 2 * 256 : Nat) : Int) from shl_8 (cn_lt (l.drop 4) 2))
      (And.intro (show IntKind.u32.wrap ((cn (l.drop 4) 2 : Nat) : Int) = ((cn (l.drop 4) 2 : Nat) : Int) from u32_wrap (by have := cn_lt (l.drop 4) 2; omega))
      (And.intro (show (0 : Int) ≤ 2 ∧ (2 : Int) < (ofL (l.drop 4)).size ∧ ((ofL (l.drop 4))[(2 : Int).toNat]?.getD 0).toNat = cn (l.drop 4) 2 from cn_at (l.drop 4) 2 (by have h4 : 4 ≤ (l.drop 4).length := h4; omega))
      (And.intro (show IntKind.u32.wrap (((BitVec.ofInt 32 ((cn (l.drop 4) 0 * 16777216 : Nat) : Int) ||| BitVec.ofInt 32 ((cn (l.drop 4) 1 * 65536 : Nat) : Int)).toNat : Nat) : Int) = (((cn (l.drop 4) 0 * 16777216) + cn (l.drop 4) 1 * 65536 : Nat) : Int) from or_u32 (cn (l.drop 4) 0 * 16777216) (cn (l.drop 4) 1 * 65536) 24 (by have := cn_lt (l.drop 4) 1; omega) (by omega) (by have := cn_lt (l.drop 4) 0; have := cn_lt (l.drop 4) 1; have := cn_lt (l.drop 4) 2; have := cn_lt (l.drop 4) 3; omega))
      (And.intro (show IntKind.u32.wrap (((cn (l.drop 4) 1 : Nat) : Int) * 2 ^ min (16 : Int).toNat IntKind.u32.bits) = ((cn (l.drop 4) 1 * 65536 : Nat) : Int) from shl_16 (cn_lt (l.drop 4) 1))
      (And.intro (show IntKind.u32.wrap ((cn (l.drop 4) 1 : Nat) : Int) = ((cn (l.drop 4) 1 : Nat) : Int) from u32_wrap (by have := cn_lt (l.drop 4) 1; omega))
      (And.intro (show (0 : Int) ≤ 1 ∧ (1 : Int) < (ofL (l.drop 4)).size ∧ ((ofL (l.drop 4))[(1 : Int).toNat]?.getD 0).toNat = cn (l.drop 4) 1 from cn_at (l.drop 4) 1 (by have h4 : 4 ≤ (l.drop 4).length := h4; omega))
      (And.intro (show IntKind.u32.wrap (((cn (l.drop 4) 0 : Nat) : Int) * 2 ^ min (24 : Int).toNat IntKind.u32.bits) = ((cn (l.drop 4) 0 * 16777216 : Nat) : Int) from shl_24 (cn_lt (l.drop 4) 0))
      (And.intro (show IntKind.u32.wrap ((cn (l.drop 4) 0 : Nat) : Int) = ((cn (l.drop 4) 0 : Nat) : Int) from u32_wrap (by have := cn_lt (l.drop 4) 0; omega))
      (And.intro (show (0 : Int) ≤ 0 ∧ (0 : Int) < (ofL (l.drop 4)).size ∧ ((ofL (l.drop 4))[(0 : Int).toNat]?.getD 0).toNat = cn (l.drop 4) 0 from cn_at (l.drop 4) 0 (by have h4 : 4 ≤ (l.drop 4).length := h4; omega))
      (And.intro (show decide ((((ofL (l.drop 4)).size : Nat) : Int) < 4) = false from decide_eq_false (by have h4 : 4 ≤ (l.drop 4).length := h4; show ¬ (((l.drop 4).length : Nat) : Int) < 4; omega))
      (And.intro (show (0 : Int) ≤ 4 ∧ (4 : Int) ≤ (ofL l).size from ⟨by decide, by show (4 : Int) ≤ ((l).length : Nat); omega⟩)
      (And.intro (show (!((ofL (l.take 4)).toList == (ofL mgW).toList)) = false from by rw [hm]; simp)
      (And.intro (show (0 : Int) ≤ 4 ∧ (4 : Int) ≤ (ofL l).size from ⟨by decide, by show (4 : Int) ≤ ((l).length : Nat); omega⟩)
      (And.intro (show decide ((((ofL l).size : Nat) : Int) < 4) = false from decide_eq_false (by show ¬ ((l.length : Nat) : Int) < 4; omega)) trivial)))))))))))))))))))))))))))
def gnEr (l : List UInt8) : Int := if l.take 4 = mgW then (if (l.drop 4).length < 4 then 3 else if 64 < c4 (l.drop 4) then 2 else if ((l.drop 4).drop 4).length = 32 * c4 (l.drop 4) then (nst 32 gfE (c4 (l.drop 4)) (0, (l.drop 4).drop 4)).1 else 3) else 80
theorem gn_split (l : List UInt8) : (gnEr l ≠ 0 ∧ Gives Try.prog 25 [.t (.v (.string (ofL l)))] (.tp [.v (.slice none 0 0), .v (.int .i64 (gnEr l))])) ∨ (gnEr l = 0 ∧ l.take 4 = mgW ∧ 4 ≤ (l.drop 4).length ∧ c4 (l.drop 4) ≤ 64 ∧ ((l.drop 4).drop 4).length = 32 * c4 (l.drop 4) ∧ (nst 32 gfE (c4 (l.drop 4)) (0, (l.drop 4).drop 4)).1 = 0) := by
  by_cases hm : l.take 4 = mgW
  · have hn : 4 ≤ l.length := by
      have := congrArg List.length hm
      rw [List.length_take] at this
      have h5 : mgW.length = 4 := rfl
      omega
    by_cases h4 : (l.drop 4).length < 4
    · have e : gnEr l = 3 := (if_pos hm).trans (if_pos h4)
      rw [e]
      refine .inl ⟨by decide, ?_⟩
      by_cases hx : (l.drop 4).length = 0
      · exact gn_c0 l hn hm h4 hx
      · exact gn_c1 l hn hm h4 hx
    · have e0 : gnEr l = _ := (if_pos hm).trans (if_neg h4)
      have h4 : 4 ≤ (l.drop 4).length := by omega
      by_cases hN : 64 < c4 (l.drop 4)
      · rw [e0.trans (if_pos hN)]
        refine .inl ⟨by decide, ?_⟩
        by_cases hx : ((l.drop 4).drop 4).length = 0
        · exact gn_d0 l hn hm h4 hN hx
        · exact gn_d1 l hn hm h4 hN hx
      · have e1 := e0.trans (if_neg hN)
        have hN : c4 (l.drop 4) ≤ 64 := by omega
        by_cases hx : ((l.drop 4).drop 4).length = 32 * c4 (l.drop 4)
        · have e2 := e1.trans (if_pos hx)
          by_cases h : (nst 32 gfE (c4 (l.drop 4)) (0, (l.drop 4).drop 4)).1 = 0
          · exact .inr ⟨e2.trans h, hm, h4, hN, hx, h⟩
          · rw [e2]
            refine .inl ⟨h, ?_⟩
            rcases Nat.eq_zero_or_pos (c4 (l.drop 4)) with hz | hz
            · exact absurd (by rw [hz]; rfl) h
            · exact gn_e0p l hn hm h4 hN hx hz h
        · rw [e1.trans (if_neg hx)]
          refine .inl ⟨by decide, ?_⟩
          rcases Nat.eq_zero_or_pos (c4 (l.drop 4)) with hz | hz
          · exact gn_e1z l hn hm h4 hN hx hz
          · have e3 := gn_e1p l hn hm h4 hN hx hz
            rw [nst_bad (show ((3, (l.drop 4).drop 4) : Int × List UInt8).1 ≠ 0 from (by show (3 : Int) ≠ 0; decide))] at e3
            exact e3
  · have e : gnEr l = 80 := if_neg hm
    rw [e]
    refine .inl ⟨by decide, ?_⟩
    by_cases hn : l.length < 4
    · exact gn_a l hn
    · exact gn_b l (by omega) hm
end Go.Proofs.Ytmbllhibdbeplaa

/- Contract of chirographlaw23.shape, for proofs and for public values. -/
set_option linter.unusedSimpArgs false
set_option linter.unusedVariables false
namespace Go.Proofs.Ytmbllhibdbeplaa
open Go.Ev Go.RowKit
theorem seq_t (a : List UInt8) : ((ofL a).toList == (ofL a).toList) = true := by simp
theorem seq_f {a b : List UInt8} (h : (a == b) = false) : ((ofL a).toList == (ofL b).toList) = false := by rw [ofL_list, ofL_list]; exact h
theorem shi_24 {a : Nat} (h : a < 256) : IntKind.i64.wrap (((a : Nat) : Int) * 2 ^ min (24 : Int).toNat IntKind.i64.bits) = ((a * 16777216 : Nat) : Int) := by
  have e : (2 : Int) ^ min (24 : Int).toNat IntKind.i64.bits = 16777216 := by decide
  rw [e, show ((a : Nat) : Int) * 16777216 = ((a * 16777216 : Nat) : Int) by omega]
  exact i64_wrap (by omega)
theorem shi_16 {a : Nat} (h : a < 256) : IntKind.i64.wrap (((a : Nat) : Int) * 2 ^ min (16 : Int).toNat IntKind.i64.bits) = ((a * 65536 : Nat) : Int) := by
  have e : (2 : Int) ^ min (16 : Int).toNat IntKind.i64.bits = 65536 := by decide
  rw [e, show ((a : Nat) : Int) * 65536 = ((a * 65536 : Nat) : Int) by omega]
  exact i64_wrap (by omega)
theorem shi_8 {a : Nat} (h : a < 256) : IntKind.i64.wrap (((a : Nat) : Int) * 2 ^ min (8 : Int).toNat IntKind.i64.bits) = ((a * 256 : Nat) : Int) := by
  have e : (2 : Int) ^ min (8 : Int).toNat IntKind.i64.bits = 256 := by decide
  rw [e, show ((a : Nat) : Int) * 256 = ((a * 256 : Nat) : Int) by omega]
  exact i64_wrap (by omega)
theorem shP_a (l : List UInt8) (hs : l.length ≤ 9223372036854775807) (hn : l.length < 4) : Gives Try.prog 21 [.t (.v (.string (ofL mgP))), .t (.v (.string (ofL l)))] (.v (.int .i64 80)) :=
  fn_gives_at (P := Try.prog) (X := rulesY _) (env := []) trivial Try.func21 1 (oL [(3, wT)]) (by kernel_rfl) ⟨_, rfl⟩
    (And.intro (show decide ((((ofL l).size : Nat) : Int) < 4) = true from decide_eq_true (by show  ((l.length : Nat) : Int) < 4; omega)) trivial)
theorem shP_b (l : List UInt8) (hs : l.length ≤ 9223372036854775807) (hn : 4 ≤ l.length) (hm : l.take 4 ≠ mgP) : Gives Try.prog 21 [.t (.v (.string (ofL mgP))), .t (.v (.string (ofL l)))] (.v (.int .i64 80)) :=
  fn_gives_at (P := Try.prog) (X := rulesY _) (env := []) trivial Try.func21 1 (oL [(3, wF), (6, rO 5 0), (8, wT)]) (by kernel_rfl) ⟨_, rfl⟩
    (And.intro (show (!((ofL (l.take 4)).toList == (ofL mgP).toList)) = true from gp_n hm)
      (And.intro (show (0 : Int) ≤ 4 ∧ (4 : Int) ≤ (ofL l).size from ⟨by decide, by show (4 : Int) ≤ ((l).length : Nat); omega⟩)
      (And.intro (show decide ((((ofL l).size : Nat) : Int) < 4) = false from decide_eq_false (by show ¬ ((l.length : Nat) : Int) < 4; omega)) trivial)))
theorem shP_y (l : List UInt8) (hs : l.length ≤ 9223372036854775807) (hn : 4 ≤ l.length) (hm : l.take 4 = mgP) (hx : l.length = 628) : Gives Try.prog 21 [.t (.v (.string (ofL mgP))), .t (.v (.string (ofL l)))] (.v (.int .i64 0)) :=
  fn_gives_at (P := Try.prog) (X := rulesY _) (env := []) trivial Try.func21 1 (oL [(3, wF), (6, rO 5 0), (8, wF), (12, rO 5 0), (17, wT), (33, wF)]) (by kernel_rfl) ⟨_, rfl⟩
    (And.intro (show (IntKind.i64.wrap ((((ofL l).size : Nat) : Int) - 4) != 624) = false from by
        have h1 : IntKind.i64.wrap ((((ofL l).size : Nat) : Int) - 4) = ((l.length : Nat) : Int) - 4 := by
          show IntKind.i64.wrap (((l.length : Nat) : Int) - 4) = _
          rw [wrap_i64]; omega
        rw [h1]
        exact ieq0 (by omega))
      (And.intro (show ((ofL mgP).toList == (ofL mgP).toList) = true from seq_t _)
      (And.intro (show (0 : Int) ≤ 4 ∧ (4 : Int) ≤ (ofL l).size from ⟨by decide, by show (4 : Int) ≤ ((l).length : Nat); omega⟩)
      (And.intro (show (!((ofL (l.take 4)).toList == (ofL mgP).toList)) = false from by rw [hm]; simp)
      (And.intro (show (0 : Int) ≤ 4 ∧ (4 : Int) ≤ (ofL l).size from ⟨by decide, by show (4 : Int) ≤ ((l).length : Nat); omega⟩)
      (And.intro (show decide ((((ofL l).size : Nat) : Int) < 4) = false from decide_eq_false (by show ¬ ((l.length : Nat) : Int) < 4; omega)) trivial))))))
theorem shP_n (l : List UInt8) (hs : l.length ≤ 9223372036854775807) (hn : 4 ≤ l.length) (hm : l.take 4 = mgP) (hx : l.length ≠ 628) : Gives Try.prog 21 [.t (.v (.string (ofL mgP))), .t (.v (.string (ofL l)))] (.v (.int .i64 3)) :=
  fn_gives_at (P := Try.prog) (X := rulesY _) (env := []) trivial Try.func21 1 (oL [(3, wF), (6, rO 5 0), (8, wF), (12, rO 5 0), (17, wT), (33, wT)]) (by kernel_rfl) ⟨_, rfl⟩
    (And.intro (show (IntKind.i64.wrap ((((ofL l).size : Nat) : Int) - 4) != 624) = true from by
        have h1 : IntKind.i64.wrap ((((ofL l).size : Nat) : Int) - 4) = ((l.length : Nat) : Int) - 4 := by
          show IntKind.i64.wrap (((l.length : Nat) : Int) - 4) = _
          rw [wrap_i64]; omega
        rw [h1]
        exact bne_iff_ne.2 (by omega))
      (And.intro (show ((ofL mgP).toList == (ofL mgP).toList) = true from seq_t _)
      (And.intro (show (0 : Int) ≤ 4 ∧ (4 : Int) ≤ (ofL l).size from ⟨by decide, by show (4 : Int) ≤ ((l).length : Nat); omega⟩)
      (And.intro (show (!((ofL (l.take 4)).toList == (ofL mgP).toList)) = false from by rw [hm]; simp)
      (And.intro (show (0 : Int) ≤ 4 ∧ (4 : Int) ≤ (ofL l).size from ⟨by decide, by show (4 : Int) ≤ ((l).length : Nat); omega⟩)
      (And.intro (show decide ((((ofL l).size : Nat) : Int) < 4) = false from decide_eq_false (by show ¬ ((l.length : Nat) : Int) < 4; omega)) trivial))))))
theorem shW_a (l : List UInt8) (hs : l.length ≤ 9223372036854775807) (hn : l.length < 4) : Gives Try.prog 21 [.t (.v (.string (ofL mgW))), .t (.v (.string (ofL l)))] (.v (.int .i64 80)) :=
  fn_gives_at (P := Try.prog) (X := rulesY _) (env := []) trivial Try.func21 1 (oL [(3, wT)]) (by kernel_rfl) ⟨_, rfl⟩
    (And.intro (show decide ((((ofL l).size : Nat) : Int) < 4) = true from decide_eq_true (by show  ((l.length : Nat) : Int) < 4; omega)) trivial)
theorem shW_b (l : List UInt8) (hs : l.length ≤ 9223372036854775807) (hn : 4 ≤ l.length) (hm : l.take 4 ≠ mgW) : Gives Try.prog 21 [.t (.v (.string (ofL mgW))), .t (.v (.string (ofL l)))] (.v (.int .i64 80)) :=
  fn_gives_at (P := Try.prog) (X := rulesY _) (env := []) trivial Try.func21 1 (oL [(3, wF), (6, rO 5 0), (8, wT)]) (by kernel_rfl) ⟨_, rfl⟩
    (And.intro (show (!((ofL (l.take 4)).toList == (ofL mgW).toList)) = true from gp_n hm)
      (And.intro (show (0 : Int) ≤ 4 ∧ (4 : Int) ≤ (ofL l).size from ⟨by decide, by show (4 : Int) ≤ ((l).length : Nat); omega⟩)
      (And.intro (show decide ((((ofL l).size : Nat) : Int) < 4) = false from decide_eq_false (by show ¬ ((l.length : Nat) : Int) < 4; omega)) trivial)))
theorem shW_c (l : List UInt8) (hs : l.length ≤ 9223372036854775807) (hn : 4 ≤ l.length) (hm : l.take 4 = mgW) (h4 : (l.drop 4).length < 4) : Gives Try.prog 21 [.t (.v (.string (ofL mgW))), .t (.v (.string (ofL l)))] (.v (.int .i64 3)) :=
  fn_gives_at (P := Try.prog) (X := rulesY _) (env := []) trivial Try.func21 1 (oL [(3, wF), (6, rO 5 0), (8, wF), (12, rO 5 0), (17, wF), (19, wF), (23, wT)]) (by kernel_rfl) ⟨_, rfl⟩
    (And.intro (show decide ((((ofL (l.drop 4)).size : Nat) : Int) < 4) = true from decide_eq_true (by show  (((l.drop 4).length : Nat) : Int) < 4; omega))
      (And.intro (show ((ofL mgW).toList == (ofL mgV).toList) = false from seq_f (by decide))
      (And.intro (show ((ofL mgW).toList == (ofL mgP).toList) = false from seq_f (by decide))
      (And.intro (show (0 : Int) ≤ 4 ∧ (4 : Int) ≤ (ofL l).size from ⟨by decide, by show (4 : Int) ≤ ((l).length : Nat); omega⟩)
      (And.intro (show (!((ofL (l.take 4)).toList == (ofL mgW).toList)) = false from by rw [hm]; simp)
      (And.intro (show (0 : Int) ≤ 4 ∧ (4 : Int) ≤ (ofL l).size from ⟨by decide, by show (4 : Int) ≤ ((l).length : Nat); omega⟩)
      (And.intro (show decide ((((ofL l).size : Nat) : Int) < 4) = false from decide_eq_false (by show ¬ ((l.length : Nat) : Int) < 4; omega)) trivial)))))))
theorem shW_d (l : List UInt8) (hs : l.length ≤ 9223372036854775807) (hn : 4 ≤ l.length) (hm : l.take 4 = mgW) (h4 : 4 ≤ (l.drop 4).length) (hN : 64 < c4 (l.drop 4)) : Gives Try.prog 21 [.t (.v (.string (ofL mgW))), .t (.v (.string (ofL l)))] (.v (.int .i64 2)) :=
  fn_gives_at (P := Try.prog) (X := rulesY _) (env := []) trivial Try.func21 1 (oL [(3, wF), (6, rO 5 0), (8, wF), (12, rO 5 0), (17, wF), (19, wF), (23, wF), (25, rO 1 (cn (l.drop 4) 0)), (26, { ch := 1, hi := fun _ => cn (l.drop 4) 0 }), (27, { ch := 1, hi := fun _ => cn (l.drop 4) 0 * 16777216 }), (29, rO 1 (cn (l.drop 4) 1)), (30, { ch := 1, hi := fun _ => cn (l.drop 4) 1 }), (31, { ch := 1, hi := fun _ => cn (l.drop 4) 1 * 65536 }), (32, { ch := 1, hi := fun _ => (cn (l.drop 4) 0 * 16777216) + cn (l.drop 4) 1 * 65536 }), (34, rO 1 (cn (l.drop 4) 2)), (35, { ch := 1, hi := fun _ => cn (l.drop 4) 2 }), (36, { ch := 1, hi := fun _ => cn (l.drop 4) 2 * 256 }), (37, { ch := 1, hi := fun _ => ((cn (l.drop 4) 0 * 16777216) + cn (l.drop 4) 1 * 65536) + cn (l.drop 4) 2 * 256 }), (39, rO 1 (cn (l.drop 4) 3)), (40, { ch := 1, hi := fun _ => cn (l.drop 4) 3 }), (41, { ch := 1, hi := fun _ => c4 (l.drop 4) }), (44, wT), (47, wT)]) (by kernel_rfl) ⟨_, rfl⟩
    (And.intro (show decide (((c4 (l.drop 4) : Nat) : Int) > 64) = true from decide_eq_true (by omega))
      (And.intro (show ((ofL mgW).toList == (ofL mgW).toList) = true from seq_t _)
      (And.intro (show IntKind.i64.wrap (((BitVec.ofInt 64 ((((cn (l.drop 4) 0 * 16777216) + cn (l.drop 4) 1 * 65536) + cn (l.drop 4) 2 * 256 : Nat) : Int) ||| BitVec.ofInt 64 ((cn (l.drop 4) 3 : Nat) : Int)).toNat : Nat) : Int) = ((c4 (l.drop 4) : Nat) : Int) from or_i64 (((cn (l.drop 4) 0 * 16777216) + cn (l.drop 4) 1 * 65536) + cn (l.drop 4) 2 * 256) (cn (l.drop 4) 3) 8 (by have := cn_lt (l.drop 4) 3; omega) (by omega) (by have := cn_lt (l.drop 4) 0; have := cn_lt (l.drop 4) 1; have := cn_lt (l.drop 4) 2; have := cn_lt (l.drop 4) 3; omega))
      (And.intro (show IntKind.i64.wrap ((cn (l.drop 4) 3 : Nat) : Int) = ((cn (l.drop 4) 3 : Nat) : Int) from i64_wrap (by have := cn_lt (l.drop 4) 3; omega))
      (And.intro (show (0 : Int) ≤ 3 ∧ (3 : Int) < (ofL (l.drop 4)).size ∧ ((ofL (l.drop 4))[(3 : Int).toNat]?.getD 0).toNat = cn (l.drop 4) 3 from cn_at (l.drop 4) 3 (by have h4 : 4 ≤ (l.drop 4).length := h4; omega))
      (And.intro (show IntKind.i64.wrap (((BitVec.ofInt 64 (((cn (l.drop 4) 0 * 16777216) + cn (l.drop 4) 1 * 65536 : Nat) : Int) ||| BitVec.ofInt 64 ((cn (l.drop 4) 2 * 256 : Nat) : Int)).toNat : Nat) : Int) = ((((cn (l.drop 4) 0 * 16777216) + cn (l.drop 4) 1 * 65536) + cn (l.drop 4) 2 * 256 : Nat) : Int) from or_i64 ((cn (l.drop 4) 0 * 16777216) + cn (l.drop 4) 1 * 65536) (cn (l.drop 4) 2 * 256) 16 (by have := cn_lt (l.drop 4) 2; omega) (by omega) (by have := cn_lt (l.drop 4) 0; have := cn_lt (l.drop 4) 1; have := cn_lt (l.drop 4) 2; have := cn_lt (l.drop 4) 3; omega))
      (And.intro (show IntKind.i64.wrap (((cn (l.drop 4) 2 : Nat) : Int) * 2 ^ min (8 : Int).toNat IntKind.i64.bits) = ((cn (l.drop 4) 2 * 256 : Nat) : Int) from shi_8 (cn_lt (l.drop 4) 2))
      (And.intro (show IntKind.i64.wrap ((cn (l.drop 4) 2 : Nat) : Int) = ((cn (l.drop 4) 2 : Nat) : Int) from i64_wrap (by have := cn_lt (l.drop 4) 2; omega))
      (And.intro (show (0 : Int) ≤ 2 ∧ (2 : Int) < (ofL (l.drop 4)).size ∧ ((ofL (l.drop 4))[(2 : Int).toNat]?.getD 0).toNat = cn (l.drop 4) 2 from cn_at (l.drop 4) 2 (by have h4 : 4 ≤ (l.drop 4).length := h4; omega))
      (And.intro (show IntKind.i64.wrap (((BitVec.ofInt 64 ((cn (l.drop 4) 0 * 16777216 : Nat) : Int) ||| BitVec.ofInt 64 ((cn (l.drop 4) 1 * 65536 : Nat) : Int)).toNat : Nat) : Int) = (((cn (l.drop 4) 0 * 16777216) + cn (l.drop 4) 1 * 65536 : Nat) : Int) from or_i64 (cn (l.drop 4) 0 * 16777216) (cn (l.drop 4) 1 * 65536) 24 (by have := cn_lt (l.drop 4) 1; omega) (by omega) (by have := cn_lt (l.drop 4) 0; have := cn_lt (l.drop 4) 1; have := cn_lt (l.drop 4) 2; have := cn_lt (l.drop 4) 3; omega))
      (And.intro (show IntKind.i64.wrap (((cn (l.drop 4) 1 : Nat) : Int) * 2 ^ min (16 : Int).toNat IntKind.i64.bits) = ((cn (l.drop 4) 1 * 65536 : Nat) : Int) from shi_16 (cn_lt (l.drop 4) 1))
      (And.intro (show IntKind.i64.wrap ((cn (l.drop 4) 1 : Nat) : Int) = ((cn (l.drop 4) 1 : Nat) : Int) from i64_wrap (by have := cn_lt (l.drop 4) 1; omega))
      (And.intro (show (0 : Int) ≤ 1 ∧ (1 : Int) < (ofL (l.drop 4)).size ∧ ((ofL (l.drop 4))[(1 : Int).toNat]?.getD 0).toNat = cn (l.drop 4) 1 from cn_at (l.drop 4) 1 (by have h4 : 4 ≤ (l.drop 4).length := h4; omega))
      (And.intro (show IntKind.i64.wrap (((cn (l.drop 4) 0 : Nat) : Int) * 2 ^ min (24 : Int).toNat IntKind.i64.bits) = ((cn (l.drop 4) 0 * 16777216 : Nat) : Int) from shi_24 (cn_lt (l.drop 4) 0))
      (And.intro (show IntKind.i64.wrap ((cn (l.drop 4) 0 : Nat) : Int) = ((cn (l.drop 4) 0 : Nat) : Int) from i64_wrap (by have := cn_lt (l.drop 4) 0; omega))
      (And.intro (show (0 : Int) ≤ 0 ∧ (0 : Int) < (ofL (l.drop 4)).size ∧ ((ofL (l.drop 4))[(0 : Int).toNat]?.getD 0).toNat = cn (l.drop 4) 0 from cn_at (l.drop 4) 0 (by have h4 : 4 ≤ (l.drop 4).length := h4; omega))
      (And.intro (show decide ((((ofL (l.drop 4)).size : Nat) : Int) < 4) = false from decide_eq_false (by show ¬ (((l.drop 4).length : Nat) : Int) < 4; omega))
      (And.intro (show ((ofL mgW).toList == (ofL mgV).toList) = false from seq_f (by decide))
      (And.intro (show ((ofL mgW).toList == (ofL mgP).toList) = false from seq_f (by decide))
      (And.intro (show (0 : Int) ≤ 4 ∧ (4 : Int) ≤ (ofL l).size from ⟨by decide, by show (4 : Int) ≤ ((l).length : Nat); omega⟩)
      (And.intro (show (!((ofL (l.take 4)).toList == (ofL mgW).toList)) = false from by rw [hm]; simp)
      (And.intro (show (0 : Int) ≤ 4 ∧ (4 : Int) ≤ (ofL l).size from ⟨by decide, by show (4 : Int) ≤ ((l).length : Nat); omega⟩)
      (And.intro (show decide ((((ofL l).size : Nat) : Int) < 4) = false from decide_eq_false (by show ¬ ((l.length : Nat) : Int) < 4; omega)) trivial)))))))))))))))))))))))
theorem shW_y (l : List UInt8) (hs : l.length ≤ 9223372036854775807) (hn : 4 ≤ l.length) (hm : l.take 4 = mgW) (h4 : 4 ≤ (l.drop 4).length) (hN : c4 (l.drop 4) ≤ 64) (hx : l.length - 4 = 4 + 32 * c4 (l.drop 4)) : Gives Try.prog 21 [.t (.v (.string (ofL mgW))), .t (.v (.string (ofL l)))] (.v (.int .i64 0)) :=
  fn_gives_at (P := Try.prog) (X := rulesY _) (env := []) trivial Try.func21 1 (oL [(3, wF), (6, rO 5 0), (8, wF), (12, rO 5 0), (17, wF), (19, wF), (23, wF), (25, rO 1 (cn (l.drop 4) 0)), (26, { ch := 1, hi := fun _ => cn (l.drop 4) 0 }), (27, { ch := 1, hi := fun _ => cn (l.drop 4) 0 * 16777216 }), (29, rO 1 (cn (l.drop 4) 1)), (30, { ch := 1, hi := fun _ => cn (l.drop 4) 1 }), (31, { ch := 1, hi := fun _ => cn (l.drop 4) 1 * 65536 }), (32, { ch := 1, hi := fun _ => (cn (l.drop 4) 0 * 16777216) + cn (l.drop 4) 1 * 65536 }), (34, rO 1 (cn (l.drop 4) 2)), (35, { ch := 1, hi := fun _ => cn (l.drop 4) 2 }), (36, { ch := 1, hi := fun _ => cn (l.drop 4) 2 * 256 }), (37, { ch := 1, hi := fun _ => ((cn (l.drop 4) 0 * 16777216) + cn (l.drop 4) 1 * 65536) + cn (l.drop 4) 2 * 256 }), (39, rO 1 (cn (l.drop 4) 3)), (40, { ch := 1, hi := fun _ => cn (l.drop 4) 3 }), (41, { ch := 1, hi := fun _ => c4 (l.drop 4) }), (44, wT), (47, wF), (49, { ch := 1, hi := fun _ => 32 * c4 (l.drop 4) }), (50, { ch := 1, hi := fun _ => 4 + 32 * c4 (l.drop 4) }), (65, wF)]) (by kernel_rfl) ⟨_, rfl⟩
    (And.intro (show (IntKind.i64.wrap ((((ofL l).size : Nat) : Int) - 4) != ((4 + 32 * c4 (l.drop 4) : Nat) : Int)) = false from by
        have h1 : IntKind.i64.wrap ((((ofL l).size : Nat) : Int) - 4) = ((l.length : Nat) : Int) - 4 := by
          show IntKind.i64.wrap (((l.length : Nat) : Int) - 4) = _
          rw [wrap_i64]; omega
        rw [h1]
        exact ieq0 (by omega))
      (And.intro (show IntKind.i64.wrap (4 + ((32 * c4 (l.drop 4) : Nat) : Int)) = ((4 + 32 * c4 (l.drop 4) : Nat) : Int) from by
        rw [show 4 + ((32 * c4 (l.drop 4) : Nat) : Int) = ((4 + 32 * c4 (l.drop 4) : Nat) : Int) by omega]
        exact i64_wrap (by omega))
      (And.intro (show IntKind.i64.wrap (32 * ((c4 (l.drop 4) : Nat) : Int)) = ((32 * c4 (l.drop 4) : Nat) : Int) from by
        rw [show 32 * ((c4 (l.drop 4) : Nat) : Int) = ((32 * c4 (l.drop 4) : Nat) : Int) by omega]
        exact i64_wrap (by omega))
      (And.intro (show decide (((c4 (l.drop 4) : Nat) : Int) > 64) = false from decide_eq_false (by omega))
      (And.intro (show ((ofL mgW).toList == (ofL mgW).toList) = true from seq_t _)
      (And.intro (show IntKind.i64.wrap (((BitVec.ofInt 64 ((((cn (l.drop 4) 0 * 16777216) + cn (l.drop 4) 1 * 65536) + cn (l.drop 4) 2 * 256 : Nat) : Int) ||| BitVec.ofInt 64 ((cn (l.drop 4) 3 : Nat) : Int)).toNat : Nat) : Int) = ((c4 (l.drop 4) : Nat) : Int) from or_i64 (((cn (l.drop 4) 0 * 16777216) + cn (l.drop 4) 1 * 65536) + cn (l.drop 4) 2 * 256) (cn (l.drop 4) 3) 8 (by have := cn_lt (l.drop 4) 3; omega) (by omega) (by have := cn_lt (l.drop 4) 0; have := cn_lt (l.drop 4) 1; have := cn_lt (l.drop 4) 2; have := cn_lt (l.drop 4) 3; omega))
      (And.intro (show IntKind.i64.wrap ((cn (l.drop 4) 3 : Nat) : Int) = ((cn (l.drop 4) 3 : Nat) : Int) from i64_wrap (by have := cn_lt (l.drop 4) 3; omega))
      (And.intro (show (0 : Int) ≤ 3 ∧ (3 : Int) < (ofL (l.drop 4)).size ∧ ((ofL (l.drop 4))[(3 : Int).toNat]?.getD 0).toNat = cn (l.drop 4) 3 from cn_at (l.drop 4) 3 (by have h4 : 4 ≤ (l.drop 4).length := h4; omega))
      (And.intro (show IntKind.i64.wrap (((BitVec.ofInt 64 (((cn (l.drop 4) 0 * 16777216) + cn (l.drop 4) 1 * 65536 : Nat) : Int) ||| BitVec.ofInt 64 ((cn (l.drop 4) 2 * 256 : Nat) : Int)).toNat : Nat) : Int) = ((((cn (l.drop 4) 0 * 16777216) + cn (l.drop 4) 1 * 65536) + cn (l.drop 4) 2 * 256 : Nat) : Int) from or_i64 ((cn (l.drop 4) 0 * 16777216) + cn (l.drop 4) 1 * 65536) (cn (l.drop 4) 2 * 256) 16 (by have := cn_lt (l.drop 4) 2; omega) (by omega) (by have := cn_lt (l.drop 4) 0; have := cn_lt (l.drop 4) 1; have := cn_lt (l.drop 4) 2; have := cn_lt (l.drop 4) 3; omega))
      (And.intro (show IntKind.i64.wrap (((cn (l.drop 4) 2 : Nat) : Int) * 2 ^ min (8 : Int).toNat IntKind.i64.bits) = ((cn (l.drop 4) 2 * 256 : Nat) : Int) from shi_8 (cn_lt (l.drop 4) 2))
      (And.intro (show IntKind.i64.wrap ((cn (l.drop 4) 2 : Nat) : Int) = ((cn (l.drop 4) 2 : Nat) : Int) from i64_wrap (by have := cn_lt (l.drop 4) 2; omega))
      (And.intro (show (0 : Int) ≤ 2 ∧ (2 : Int) < (ofL (l.drop 4)).size ∧ ((ofL (l.drop 4))[(2 : Int).toNat]?.getD 0).toNat = cn (l.drop 4) 2 from cn_at (l.drop 4) 2 (by have h4 : 4 ≤ (l.drop 4).length := h4; omega))
      (And.intro (show IntKind.i64.wrap (((BitVec.ofInt 64 ((cn (l.drop 4) 0 * 16777216 : Nat) : Int) ||| BitVec.ofInt 64 ((cn (l.drop 4) 1 * 65536 : Nat) : Int)).toNat : Nat) : Int) = (((cn (l.drop 4) 0 * 16777216) + cn (l.drop 4) 1 * 65536 : Nat) : Int) from or_i64 (cn (l.drop 4) 0 * 16777216) (cn (l.drop 4) 1 * 65536) 24 (by have := cn_lt (l.drop 4) 1; omega) (by omega) (by have := cn_lt (l.drop 4) 0; have := cn_lt (l.drop 4) 1; have := cn_lt (l.drop 4) 2; have := cn_lt (l.drop 4) 3; omega))
      (And.intro (show IntKind.i64.wrap (((cn (l.drop 4) 1 : Nat) : Int) * 2 ^ min (16 : Int).toNat IntKind.i64.bits) = ((cn (l.drop 4) 1 * 65536 : Nat) : Int) from shi_16 (cn_lt (l.drop 4) 1))
      (And.intro (show IntKind.i64.wrap ((cn (l.drop 4) 1 : Nat) : Int) = ((cn (l.drop 4) 1 : Nat) : Int) from i64_wrap (by have := cn_lt (l.drop 4) 1; omega))
      (And.intro (show (0 : Int) ≤ 1 ∧ (1 : Int) < (ofL (l.drop 4)).size ∧ ((ofL (l.drop 4))[(1 : Int).toNat]?.getD 0).toNat = cn (l.drop 4) 1 from cn_at (l.drop 4) 1 (by have h4 : 4 ≤ (l.drop 4).length := h4; omega))
      (And.intro (show IntKind.i64.wrap (((cn (l.drop 4) 0 : Nat) : Int) * 2 ^ min (24 : Int).toNat IntKind.i64.bits) = ((cn (l.drop 4) 0 * 16777216 : Nat) : Int) from shi_24 (cn_lt (l.drop 4) 0))
      (And.intro (show IntKind.i64.wrap ((cn (l.drop 4) 0 : Nat) : Int) = ((cn (l.drop 4) 0 : Nat) : Int) from i64_wrap (by have := cn_lt (l.drop 4) 0; omega))
      (And.intro (show (0 : Int) ≤ 0 ∧ (0 : Int) < (ofL (l.drop 4)).size ∧ ((ofL (l.drop 4))[(0 : Int).toNat]?.getD 0).toNat = cn (l.drop 4) 0 from cn_at (l.drop 4) 0 (by have h4 : 4 ≤ (l.drop 4).length := h4; omega))
      (And.intro (show decide ((((ofL (l.drop 4)).size : Nat) : Int) < 4) = false from decide_eq_false (by show ¬ (((l.drop 4).length : Nat) : Int) < 4; omega))
      (And.intro (show ((ofL mgW).toList == (ofL mgV).toList) = false from seq_f (by decide))
      (And.intro (show ((ofL mgW).toList == (ofL mgP).toList) = false from seq_f (by decide))
      (And.intro (show (0 : Int) ≤ 4 ∧ (4 : Int) ≤ (ofL l).size from ⟨by decide, by show (4 : Int) ≤ ((l).length : Nat); omega⟩)
      (And.intro (show (!((ofL (l.take 4)).toList == (ofL mgW).toList)) = false from by rw [hm]; simp)
      (And.intro (show (0 : Int) ≤ 4 ∧ (4 : Int) ≤ (ofL l).size from ⟨by decide, by show (4 : Int) ≤ ((l).length : Nat); omega⟩)
      (And.intro (show decide ((((ofL l).size : Nat) : Int) < 4) = false from decide_eq_false (by show ¬ ((l.length : Nat) : Int) < 4; omega)) trivial))))))))))))))))))))))))))
theorem shW_n (l : List UInt8) (hs : l.length ≤ 9223372036854775807) (hn : 4 ≤ l.length) (hm : l.take 4 = mgW) (h4 : 4 ≤ (l.drop 4).length) (hN : c4 (l.drop 4) ≤ 64) (hx : l.length - 4 ≠ 4 + 32 * c4 (l.drop 4)) : Gives Try.prog 21 [.t (.v (.string (ofL mgW))), .t (.v (.string (ofL l)))] (.v (.int .i64 3)) :=
  fn_gives_at (P := Try.prog) (X := rulesY _) (env := []) trivial Try.func21 1 (oL [(3, wF), (6, rO 5 0), (8, wF), (12, rO 5 0), (17, wF), (19, wF), (23, wF), (25, rO 1 (cn (l.drop 4) 0)), (26, { ch := 1, hi := fun _ => cn (l.drop 4) 0 }), (27, { ch := 1, hi := fun _ => cn (l.drop 4) 0 * 16777216 }), (29, rO 1 (cn (l.drop 4) 1)), (30, { ch := 1, hi := fun _ => cn (l.drop 4) 1 }), (31, { ch := 1, hi := fun _ => cn (l.drop 4) 1 * 65536 }), (32, { ch := 1, hi := fun _ => (cn (l.drop 4) 0 * 16777216) + cn (l.drop 4) 1 * 65536 }), (34, rO 1 (cn (l.drop 4) 2)), (35, { ch := 1, hi := fun _ => cn (l.drop 4) 2 }), (36, { ch := 1, hi := fun _ => cn (l.drop 4) 2 * 256 }), (37, { ch := 1, hi := fun _ => ((cn (l.drop 4) 0 * 16777216) + cn (l.drop 4) 1 * 65536) + cn (l.drop 4) 2 * 256 }), (39, rO 1 (cn (l.drop 4) 3)), (40, { ch := 1, hi := fun _ => cn (l.drop 4) 3 }), (41, { ch := 1, hi := fun _ => c4 (l.drop 4) }), (44, wT), (47, wF), (49, { ch := 1, hi := fun _ => 32 * c4 (l.drop 4) }), (50, { ch := 1, hi := fun _ => 4 + 32 * c4 (l.drop 4) }), (65, wT)]) (by kernel_rfl) ⟨_, rfl⟩
    (And.intro (show (IntKind.i64.wrap ((((ofL l).size : Nat) : Int) - 4) != ((4 + 32 * c4 (l.drop 4) : Nat) : Int)) = true from by
        have h1 : IntKind.i64.wrap ((((ofL l).size : Nat) : Int) - 4) = ((l.length : Nat) : Int) - 4 := by
          show IntKind.i64.wrap (((l.length : Nat) : Int) - 4) = _
          rw [wrap_i64]; omega
        rw [h1]
        exact bne_iff_ne.2 (by omega))
      (And.intro (show IntKind.i64.wrap (4 + ((32 * c4 (l.drop 4) : Nat) : Int)) = ((4 + 32 * c4 (l.drop 4) : Nat) : Int) from by
        rw [show 4 + ((32 * c4 (l.drop 4) : Nat) : Int) = ((4 + 32 * c4 (l.drop 4) : Nat) : Int) by omega]
        exact i64_wrap (by omega))
      (And.intro (show IntKind.i64.wrap (32 * ((c4 (l.drop 4) : Nat) : Int)) = ((32 * c4 (l.drop 4) : Nat) : Int) from by
        rw [show 32 * ((c4 (l.drop 4) : Nat) : Int) = ((32 * c4 (l.drop 4) : Nat) : Int) by omega]
        exact i64_wrap (by omega))
      (And.intro (show decide (((c4 (l.drop 4) : Nat) : Int) > 64) = false from decide_eq_false (by omega))
      (And.intro (show ((ofL mgW).toList == (ofL mgW).toList) = true from seq_t _)
      (And.intro (show IntKind.i64.wrap (((BitVec.ofInt 64 ((((cn (l.drop 4) 0 * 16777216) + cn (l.drop 4) 1 * 65536) + cn (l.drop 4) 2 * 256 : Nat) : Int) ||| BitVec.ofInt 64 ((cn (l.drop 4) 3 : Nat) : Int)).toNat : Nat) : Int) = ((c4 (l.drop 4) : Nat) : Int) from or_i64 (((cn (l.drop 4) 0 * 16777216) + cn (l.drop 4) 1 * 65536) + cn (l.drop 4) 2 * 256) (cn (l.drop 4) 3) 8 (by have := cn_lt (l.drop 4) 3; omega) (by omega) (by have := cn_lt (l.drop 4) 0; have := cn_lt (l.drop 4) 1; have := cn_lt (l.drop 4) 2; have := cn_lt (l.drop 4) 3; omega))
      (And.intro (show IntKind.i64.wrap ((cn (l.drop 4) 3 : Nat) : Int) = ((cn (l.drop 4) 3 : Nat) : Int) from i64_wrap (by have := cn_lt (l.drop 4) 3; omega))
      (And.intro (show (0 : Int) ≤ 3 ∧ (3 : Int) < (ofL (l.drop 4)).size ∧ ((ofL (l.drop 4))[(3 : Int).toNat]?.getD 0).toNat = cn (l.drop 4) 3 from cn_at (l.drop 4) 3 (by have h4 : 4 ≤ (l.drop 4).length := h4; omega))
      (And.intro (show IntKind.i64.wrap (((BitVec.ofInt 64 (((cn (l.drop 4) 0 * 16777216) + cn (l.drop 4) 1 * 65536 : Nat) : Int) ||| BitVec.ofInt 64 ((cn (l.drop 4) 2 * 256 : Nat) : Int)).toNat : Nat) : Int) = ((((cn (l.drop 4) 0 * 16777216) + cn (l.drop 4) 1 * 65536) + cn (l.drop 4) 2 * 256 : Nat) : Int) from or_i64 ((cn (l.drop 4) 0 * 16777216) + cn (l.drop 4) 1 * 65536) (cn (l.drop 4) 2 * 256) 16 (by have := cn_lt (l.drop 4) 2; omega) (by omega) (by have := cn_lt (l.drop 4) 0; have := cn_lt (l.drop 4) 1; have := cn_lt (l.drop 4) 2; have := cn_lt (l.drop 4) 3; omega))
      (And.intro (show IntKind.i64.wrap (((cn (l.drop 4) 2 : Nat) : Int) * 2 ^ min (8 : Int).toNat IntKind.i64.bits) = ((cn (l.drop 4) 2 * 256 : Nat) : Int) from shi_8 (cn_lt (l.drop 4) 2))
      (And.intro (show IntKind.i64.wrap ((cn (l.drop 4) 2 : Nat) : Int) = ((cn (l.drop 4) 2 : Nat) : Int) from i64_wrap (by have := cn_lt (l.drop 4) 2; omega))
      (And.intro (show (0 : Int) ≤ 2 ∧ (2 : Int) < (ofL (l.drop 4)).size ∧ ((ofL (l.drop 4))[(2 : Int).toNat]?.getD 0).toNat = cn (l.drop 4) 2 from cn_at (l.drop 4) 2 (by have h4 : 4 ≤ (l.drop 4).length := h4; omega))
      (And.intro (show IntKind.i64.wrap (((BitVec.ofInt 64 ((cn (l.drop 4) 0 * 16777216 : Nat) : Int) ||| BitVec.ofInt 64 ((cn (l.drop 4) 1 * 65536 : Nat) : Int)).toNat : Nat) : Int) = (((cn (l.drop 4) 0 * 16777216) + cn (l.drop 4) 1 * 65536 : Nat) : Int) from or_i64 (cn (l.drop 4) 0 * 16777216) (cn (l.drop 4) 1 * 65536) 24 (by have := cn_lt (l.drop 4) 1; omega) (by omega) (by have := cn_lt (l.drop 4) 0; have := cn_lt (l.drop 4) 1; have := cn_lt (l.drop 4) 2; have := cn_lt (l.drop 4) 3; omega))
      (And.intro (show IntKind.i64.wrap (((cn (l.drop 4) 1 : Nat) : Int) * 2 ^ min (16 : Int).toNat IntKind.i64.bits) = ((cn (l.drop 4) 1 * 65536 : Nat) : Int) from shi_16 (cn_lt (l.drop 4) 1))
      (And.intro (show IntKind.i64.wrap ((cn (l.drop 4) 1 : Nat) : Int) = ((cn (l.drop 4) 1 : Nat) : Int) from i64_wrap (by have := cn_lt (l.drop 4) 1; omega))
      (And.intro (show (0 : Int) ≤ 1 ∧ (1 : Int) < (ofL (l.drop 4)).size ∧ ((ofL (l.drop 4))[(1 : Int).toNat]?.getD 0).toNat = cn (l.drop 4) 1 from cn_at (l.drop 4) 1 (by have h4 : 4 ≤ (l.drop 4).length := h4; omega))
      (And.intro (show IntKind.i64.wrap (((cn (l.drop 4) 0 : Nat) : Int) * 2 ^ min (24 : Int).toNat IntKind.i64.bits) = ((cn (l.drop 4) 0 * 16777216 : Nat) : Int) from shi_24 (cn_lt (l.drop 4) 0))
      (And.intro (show IntKind.i64.wrap ((cn (l.drop 4) 0 : Nat) : Int) = ((cn (l.drop 4) 0 : Nat) : Int) from i64_wrap (by have := cn_lt (l.drop 4) 0; omega))
      (And.intro (show (0 : Int) ≤ 0 ∧ (0 : Int) < (ofL (l.drop 4)).size ∧ ((ofL (l.drop 4))[(0 : Int).toNat]?.getD 0).toNat = cn (l.drop 4) 0 from cn_at (l.drop 4) 0 (by have h4 : 4 ≤ (l.drop 4).length := h4; omega))
      (And.intro (show decide ((((ofL (l.drop 4)).size : Nat) : Int) < 4) = false from decide_eq_false (by show ¬ (((l.drop 4).length : Nat) : Int) < 4; omega))
      (And.intro (show ((ofL mgW).toList == (ofL mgV).toList) = false from seq_f (by decide))
      (And.intro (show ((ofL mgW).toList == (ofL mgP).toList) = false from seq_f (by decide))
      (And.intro (show (0 : Int) ≤ 4 ∧ (4 : Int) ≤ (ofL l).size from ⟨by decide, by show (4 : Int) ≤ ((l).length : Nat); omega⟩)
      (And.intro (show (!((ofL (l.take 4)).toList == (ofL mgW).toList)) = false from by rw [hm]; simp)
      (And.intro (show (0 : Int) ≤ 4 ∧ (4 : Int) ≤ (ofL l).size from ⟨by decide, by show (4 : Int) ≤ ((l).length : Nat); omega⟩)
      (And.intro (show decide ((((ofL l).size : Nat) : Int) < 4) = false from decide_eq_false (by show ¬ ((l.length : Nat) : Int) < 4; omega)) trivial))))))))))))))))))))))))))
def shP (l : List UInt8) : Int := if l.take 4 = mgP then (if l.length = 628 then 0 else 3) else 80
def shW (l : List UInt8) : Int := if l.take 4 = mgW then (if (l.drop 4).length < 4 then 3 else if 64 < c4 (l.drop 4) then 2 else if l.length - 4 = 4 + 32 * c4 (l.drop 4) then 0 else 3) else 80
theorem take_len {l m : List UInt8} (h : l.take 4 = m) (hm : m.length = 4) : 4 ≤ l.length := by
  have := congrArg List.length h
  rw [List.length_take] at this
  omega
theorem shP_gives (l : List UInt8) (hs : l.length ≤ 9223372036854775807) : Gives Try.prog 21 [.t (.v (.string (ofL mgP))), .t (.v (.string (ofL l)))] (.v (.int .i64 (shP l))) := by
  unfold shP
  by_cases hm : l.take 4 = mgP
  · have hn := take_len hm rfl
    rw [if_pos hm]
    by_cases hx : l.length = 628
    · rw [if_pos hx]; exact shP_y l hs hn hm hx
    · rw [if_neg hx]; exact shP_n l hs hn hm hx
  · rw [if_neg hm]
    by_cases hn : l.length < 4
    · exact shP_a l hs hn
    · exact shP_b l hs (by omega) hm
theorem shW_gives (l : List UInt8) (hs : l.length ≤ 9223372036854775807) : Gives Try.prog 21 [.t (.v (.string (ofL mgW))), .t (.v (.string (ofL l)))] (.v (.int .i64 (shW l))) := by
  unfold shW
  by_cases hm : l.take 4 = mgW
  · have hn := take_len hm rfl
    rw [if_pos hm]
    by_cases h4 : (l.drop 4).length < 4
    · rw [if_pos h4]; exact shW_c l hs hn hm h4
    · rw [if_neg h4]
      by_cases hN : 64 < c4 (l.drop 4)
      · rw [if_pos hN]; exact shW_d l hs hn hm (by omega) hN
      · rw [if_neg hN]
        by_cases hx : l.length - 4 = 4 + 32 * c4 (l.drop 4)
        · rw [if_pos hx]; exact shW_y l hs hn hm (by omega) (by omega) hx
        · rw [if_neg hx]; exact shW_n l hs hn hm (by omega) (by omega) hx
  · rw [if_neg hm]
    by_cases hn : l.length < 4
    · exact shW_a l hs hn
    · exact shW_b l hs (by omega) hm
end Go.Proofs.Ytmbllhibdbeplaa

/- Rounds of chirographlaw23.FormatParts. -/
set_option linter.unusedSimpArgs false
set_option linter.unusedVariables false
namespace Go.Proofs.Ytmbllhibdbeplaa
open Go.Ev Go.RowKit
def z9L : List Ch := (List.replicate 9 z13L).flatten
def z24L : List Ch := List.replicate 24 (.c (.int .u64 0))
def paI (pc gc : List Ch) (e : Int) (rest : List UInt8) (z : Int) : LState := { n := 208, sl := [(3, .p 9 0), (4, .v (.int .i64 e)), (5, .v (.string (ofL rest))), (6, .sl 33 0 9 9), (49, .v (.int .i64 9)), (50, .v (.int .i64 z))], hp := [(9, .own pc 58), (33, .own gc 56)] }
def paE (pc : List Ch) (e : Int) (rest : List UInt8) : LState := { n := 208, sl := [(3, .p 9 0), (4, .v (.int .i64 e)), (5, .v (.string (ofL rest)))], hp := [(9, .own pc 58)] }
def pbI (pc fc : List Ch) (e : Int) (rest : List UInt8) (z : Int) : LState := { n := 208, sl := [(3, .p 9 0), (4, .v (.int .i64 e)), (5, .v (.string (ofL rest))), (97, .sl 51 0 6 6), (98, .v (.int .i64 6)), (99, .v (.int .i64 z))], hp := [(9, .own pc 58), (51, .own fc 32)] }
def pbE (e : Int) : LState := { n := 208, sl := [(4, .v (.int .i64 e))], hp := [] }
def pxR : LState := { n := 208, sl := [(2, .v (.bool true))], hp := [] }
def pvI (l : List UInt8) (N : Nat) (C : List Value) (z : Int) : LState := { n := 208, sl := [(0, .v (.string (ofL l))), (14, .sx 8 N), (15, .v (.int .i64 0)), (16, .v (.int .i64 z))], hp := [(8, .gr [.l C] 32 4)] }
def pvE (l : List UInt8) (N : Nat) (C : List Value) : LState := { n := 208, sl := [(0, .v (.string (ofL l))), (14, .sx 8 N), (15, .v (.int .i64 0))], hp := [(8, .gr [.l C] 32 4)] }
def pdI (l : List UInt8) (e z : Int) : LState := { n := 208, sl := [(0, .v (.string (ofL l))), (14, .v (.slice none 0 0)), (15, .v (.int .i64 e)), (16, .v (.int .i64 z))], hp := [] }
def pdE (l : List UInt8) (e : Int) : LState := { n := 208, sl := [(0, .v (.string (ofL l))), (14, .v (.slice none 0 0)), (15, .v (.int .i64 e))], hp := [] }
theorem z24_flat : flat z24L = flat [.l (numC 4 [0, 0, 0, 0, 0, 0])] := by kernel_rfl
theorem z24_at (i : Nat) (h : i < 6) : sizes [.n 4 0] = 4 ∧ ((flat z24L).drop (0 + i * 4)).take 4 = flat [.n 4 0] := by
  have e : ([0, 0, 0, 0, 0, 0] : List Nat)[i]? = some 0 := by
    match i, h with
    | 0, _ => rfl
    | 1, _ => rfl
    | 2, _ => rfl
    | 3, _ => rfl
    | 4, _ => rfl
    | 5, _ => rfl
  obtain ⟨h1, h2⟩ := num_at _ i 0 e
  rw [Nat.zero_add, z24_flat]
  exact ⟨h1, h2⟩
theorem pa_ok (p : PF) (rest : List UInt8) (i : Nat) (a : A1) (hi : i < 9) (ha : p.pts[i]? = some a) (hl : 48 ≤ rest.length) (h1 : g1E (rest.take 48) = 0) (h2 : g1V (rest.take 48) = a) : Sound Try.prog 0 false (loopB Try.f6 0) (paI p.ch p.pc 0 rest (i : Int)).aa .normal (paI p.ch p.pc 0 (rest.drop 48) ((i + 1 : Nat) : Int)).aa := by
  have hh := roundK_sound (P := Try.prog) (X := rulesY _) (env := [eGet1T, eFGetT, eFAlive]) ⟨eGet1T_ok, eFGetT_ok, eFAlive_ok, trivial⟩ (n := 1) (os := oL [(38, wT), (42, rO 5 0), (51, wF), (58, rO 2 i), (59, { ch := 0, hi := fun _ => 0, ru := 8, cs := fun _ => ptP a }), (60, wO 0), (63, rO 5 0)]) (fb := 0) (rd := false) (c := (loopB Try.f6 0)) (k := 38) (I := paI p.ch p.pc 0 rest (i : Int)) (sk := [3, 4, 5, 6, 49, 50]) (hk := [9, 33]) (lk := []) (ex := .normal)
    (L := paI p.ch p.pc 0 (rest.drop 48) (IntKind.i64.wrap ((i : Int) + 1))) (by kernel_rfl)
    (And.intro (show (0 : Int) ≤ 48 ∧ (48 : Int) ≤ (ofL rest).size from ⟨by decide, by show (48 : Int) ≤ (rest.length : Nat); omega⟩)
      (And.intro (show flat (pt1 (g1V (rest.take 48))) = flat (ptP a) from by rw [h2]; rfl)
      (And.intro (show sizes (ptP a) = 13 ∧ ((flat p.pc).drop (0 + i * 13)).take 13 = flat (ptP a) from by rw [Nat.zero_add, p.pc_flat]; exact pt_at p.pts i a ha)
      (And.intro (show (i : Int) = ((i : Nat) : Int) ∧ i < 9 from ⟨rfl, hi⟩)
      (And.intro (show (g1E (rest.take 48) != 0) = false from by rw [h1]; rfl)
      (And.intro (show (0 : Int) ≤ 48 ∧ (48 : Int) ≤ (ofL rest).size from ⟨by decide, by show (48 : Int) ≤ (rest.length : Nat); omega⟩)
      (And.intro (show decide ((i : Int) < 9) = true from decide_eq_true (by omega)) trivial)))))))
  rw [show IntKind.i64.wrap ((i : Int) + 1) = ((i + 1 : Nat) : Int) by rw [wrap_i64]; omega] at hh
  exact hh
theorem pa_er (e : Int) (he : e ≠ 0) (rest : List UInt8) (i : Nat) (hi : i < 9) (hl : 48 ≤ rest.length) (h1 : g1E (rest.take 48) = 0) : Sound Try.prog 0 false (loopB Try.f6 0) (paI z141 z9L e rest (i : Int)).aa .normal (paI z141 z9L e (rest.drop 48) ((i + 1 : Nat) : Int)).aa := by
  have hh := roundK_sound (P := Try.prog) (X := rulesY _) (env := [eGet1T, eFGetT, eFAlive]) ⟨eGet1T_ok, eFGetT_ok, eFAlive_ok, trivial⟩ (n := 1) (os := oL [(38, wT), (42, rO 5 0), (51, wF), (53, wF), (63, rO 5 0)]) (fb := 0) (rd := false) (c := (loopB Try.f6 0)) (k := 38) (I := paI z141 z9L e rest (i : Int)) (sk := [3, 4, 5, 6, 49, 50]) (hk := [9, 33]) (lk := []) (ex := .normal)
    (L := paI z141 z9L e (rest.drop 48) (IntKind.i64.wrap ((i : Int) + 1))) (by kernel_rfl)
    (And.intro (show (0 : Int) ≤ 48 ∧ (48 : Int) ≤ (ofL rest).size from ⟨by decide, by show (48 : Int) ≤ (rest.length : Nat); omega⟩)
      (And.intro (show (e == 0) = false from by simpa using he)
      (And.intro (show (g1E (rest.take 48) != 0) = false from by rw [h1]; rfl)
      (And.intro (show (0 : Int) ≤ 48 ∧ (48 : Int) ≤ (ofL rest).size from ⟨by decide, by show (48 : Int) ≤ (rest.length : Nat); omega⟩)
      (And.intro (show decide ((i : Int) < 9) = true from decide_eq_true (by omega)) trivial)))))
  rw [show IntKind.i64.wrap ((i : Int) + 1) = ((i + 1 : Nat) : Int) by rw [wrap_i64]; omega] at hh
  exact hh
theorem pa_ret (e : Int) (he : e ≠ 0) (rest : List UInt8) (i : Nat) (hi : i < 9) (hl : 48 ≤ rest.length) (h1 : g1E (rest.take 48) = e) : Sound Try.prog 0 false (loopB Try.f6 0) (paI z141 z9L e rest (i : Int)).aa .ret (pxR).aa :=
  roundK_sound (P := Try.prog) (X := rulesY _) (env := [eGet1T, eFGetT, eFAlive]) ⟨eGet1T_ok, eFGetT_ok, eFAlive_ok, trivial⟩ (n := 1) (os := oL [(38, wT), (42, rO 5 0), (51, wT), (56, wT), (61, wO 0)]) (fb := 0) (rd := false) (c := (loopB Try.f6 0)) (k := 38) (I := paI z141 z9L e rest (i : Int)) (sk := [2]) (hk := []) (lk := []) (ex := .ret)
    (L := pxR) (by kernel_rfl)
    (And.intro (show flat z141 = flat z141 from rfl)
      (And.intro (show (e == g1E (rest.take 48)) = true from by rw [h1]; simp)
      (And.intro (show (g1E (rest.take 48) != 0) = true from by rw [h1]; simpa using he)
      (And.intro (show (0 : Int) ≤ 48 ∧ (48 : Int) ≤ (ofL rest).size from ⟨by decide, by show (48 : Int) ≤ (rest.length : Nat); omega⟩)
      (And.intro (show decide ((i : Int) < 9) = true from decide_eq_true (by omega)) trivial)))))
theorem pa_end0 (p : PF) (rest : List UInt8) : Sound Try.prog 0 false (loopB Try.f6 0) (paI p.ch p.pc 0 rest 9).aa (.exit 0) (paE p.ch 0 rest).aa :=
  roundK_sound (P := Try.prog) (X := rulesY _) (env := [eGet1T, eFGetT, eFAlive]) ⟨eGet1T_ok, eFGetT_ok, eFAlive_ok, trivial⟩ (n := 1) (os := oL []) (fb := 0) (rd := false) (c := (loopB Try.f6 0)) (k := 38) (I := paI p.ch p.pc 0 rest 9) (sk := [3, 4, 5]) (hk := [9]) (lk := []) (ex := (.exit 0))
    (L := paE p.ch 0 rest) (by kernel_rfl)
    trivial
theorem pa_end1 (e : Int) (rest : List UInt8) : Sound Try.prog 0 false (loopB Try.f6 0) (paI z141 z9L e rest 9).aa (.exit 0) (paE z141 e rest).aa :=
  roundK_sound (P := Try.prog) (X := rulesY _) (env := [eGet1T, eFGetT, eFAlive]) ⟨eGet1T_ok, eFGetT_ok, eFAlive_ok, trivial⟩ (n := 1) (os := oL []) (fb := 0) (rd := false) (c := (loopB Try.f6 0)) (k := 38) (I := paI z141 z9L e rest 9) (sk := [3, 4, 5]) (hk := [9]) (lk := []) (ex := (.exit 0))
    (L := paE z141 e rest) (by kernel_rfl)
    trivial
theorem pb_ok (p : PF) (rest : List UInt8) (i x : Nat) (hi : i < 6) (ha : p.nums[i]? = some x) (hl : 32 ≤ rest.length) (h1 : gfE (rest.take 32) = 0) (h2 : gfV (rest.take 32) = x) : Sound Try.prog 0 false (loopB Try.f6 1) (pbI p.ch p.nc 0 rest (i : Int)).aa .normal (pbI p.ch p.nc 0 (rest.drop 32) ((i + 1 : Nat) : Int)).aa := by
  have hh := roundK_sound (P := Try.prog) (X := rulesY _) (env := [eGet1T, eFGetT, eFAlive]) ⟨eGet1T_ok, eFGetT_ok, eFAlive_ok, trivial⟩ (n := 1) (os := oL [(54, wT), (55, rO 2 i), (56, { ch := 0, hi := fun _ => 0, ru := 8, cs := fun _ => [.n 4 x] }), (60, rO 5 0), (69, wF), (75, wO 0), (78, rO 5 0)]) (fb := 0) (rd := false) (c := (loopB Try.f6 1)) (k := 54) (I := pbI p.ch p.nc 0 rest (i : Int)) (sk := [3, 4, 5, 97, 98, 99]) (hk := [9, 51]) (lk := []) (ex := .normal)
    (L := pbI p.ch p.nc 0 (rest.drop 32) (IntKind.i64.wrap ((i : Int) + 1))) (by kernel_rfl)
    (And.intro (show (0 : Int) ≤ 32 ∧ (32 : Int) ≤ (ofL rest).size from ⟨by decide, by show (32 : Int) ≤ (rest.length : Nat); omega⟩)
      (And.intro (show flat [.n 4 x] = flat [.n 4 (gfV (rest.take 32))] from by rw [h2])
      (And.intro (show (gfE (rest.take 32) != 0) = false from by rw [h1]; rfl)
      (And.intro (show (0 : Int) ≤ 32 ∧ (32 : Int) ≤ (ofL rest).size from ⟨by decide, by show (32 : Int) ≤ (rest.length : Nat); omega⟩)
      (And.intro (show sizes [.n 4 x] = 4 ∧ ((flat p.nc).drop (0 + i * 4)).take 4 = flat [.n 4 x] from by rw [Nat.zero_add, p.nc_flat]; exact num_at p.nums i x ha)
      (And.intro (show (i : Int) = ((i : Nat) : Int) ∧ i < 6 from ⟨rfl, hi⟩)
      (And.intro (show decide ((i : Int) < 6) = true from decide_eq_true (by omega)) trivial)))))))
  rw [show IntKind.i64.wrap ((i : Int) + 1) = ((i + 1 : Nat) : Int) by rw [wrap_i64]; omega] at hh
  exact hh
theorem pb_er (e : Int) (he : e ≠ 0) (rest : List UInt8) (i : Nat) (hi : i < 6) (hl : 32 ≤ rest.length) (h1 : gfE (rest.take 32) = 0) : Sound Try.prog 0 false (loopB Try.f6 1) (pbI z141 z24L e rest (i : Int)).aa .normal (pbI z141 z24L e (rest.drop 32) ((i + 1 : Nat) : Int)).aa := by
  have hh := roundK_sound (P := Try.prog) (X := rulesY _) (env := [eGet1T, eFGetT, eFAlive]) ⟨eGet1T_ok, eFGetT_ok, eFAlive_ok, trivial⟩ (n := 1) (os := oL [(54, wT), (55, rO 2 i), (56, { ch := 0, hi := fun _ => 0, ru := 8, cs := fun _ => [.n 4 0] }), (60, rO 5 0), (69, wF), (71, wF), (78, rO 5 0)]) (fb := 0) (rd := false) (c := (loopB Try.f6 1)) (k := 54) (I := pbI z141 z24L e rest (i : Int)) (sk := [3, 4, 5, 97, 98, 99]) (hk := [9, 51]) (lk := []) (ex := .normal)
    (L := pbI z141 z24L e (rest.drop 32) (IntKind.i64.wrap ((i : Int) + 1))) (by kernel_rfl)
    (And.intro (show (0 : Int) ≤ 32 ∧ (32 : Int) ≤ (ofL rest).size from ⟨by decide, by show (32 : Int) ≤ (rest.length : Nat); omega⟩)
      (And.intro (show (e == 0) = false from by simpa using he)
      (And.intro (show (gfE (rest.take 32) != 0) = false from by rw [h1]; rfl)
      (And.intro (show (0 : Int) ≤ 32 ∧ (32 : Int) ≤ (ofL rest).size from ⟨by decide, by show (32 : Int) ≤ (rest.length : Nat); omega⟩)
      (And.intro (show sizes [.n 4 0] = 4 ∧ ((flat z24L).drop (0 + i * 4)).take 4 = flat [.n 4 0] from z24_at i hi)
      (And.intro (show (i : Int) = ((i : Nat) : Int) ∧ i < 6 from ⟨rfl, hi⟩)
      (And.intro (show decide ((i : Int) < 6) = true from decide_eq_true (by omega)) trivial)))))))
  rw [show IntKind.i64.wrap ((i : Int) + 1) = ((i + 1 : Nat) : Int) by rw [wrap_i64]; omega] at hh
  exact hh
theorem pb_ret (e : Int) (he : e ≠ 0) (rest : List UInt8) (i : Nat) (hi : i < 6) (hl : 32 ≤ rest.length) (h1 : gfE (rest.take 32) = e) : Sound Try.prog 0 false (loopB Try.f6 1) (pbI z141 z24L e rest (i : Int)).aa .ret (pxR).aa :=
  roundK_sound (P := Try.prog) (X := rulesY _) (env := [eGet1T, eFGetT, eFAlive]) ⟨eGet1T_ok, eFGetT_ok, eFAlive_ok, trivial⟩ (n := 1) (os := oL [(54, wT), (55, rO 2 i), (56, { ch := 0, hi := fun _ => 0, ru := 8, cs := fun _ => [.n 4 0] }), (60, rO 5 0), (69, wT), (74, wT), (79, wO 0)]) (fb := 0) (rd := false) (c := (loopB Try.f6 1)) (k := 54) (I := pbI z141 z24L e rest (i : Int)) (sk := [2]) (hk := []) (lk := []) (ex := .ret)
    (L := pxR) (by kernel_rfl)
    (And.intro (show flat z141 = flat z141 from rfl)
      (And.intro (show (e == gfE (rest.take 32)) = true from by rw [h1]; simp)
      (And.intro (show (gfE (rest.take 32) != 0) = true from by rw [h1]; simpa using he)
      (And.intro (show (0 : Int) ≤ 32 ∧ (32 : Int) ≤ (ofL rest).size from ⟨by decide, by show (32 : Int) ≤ (rest.length : Nat); omega⟩)
      (And.intro (show sizes [.n 4 0] = 4 ∧ ((flat z24L).drop (0 + i * 4)).take 4 = flat [.n 4 0] from z24_at i hi)
      (And.intro (show (i : Int) = ((i : Nat) : Int) ∧ i < 6 from ⟨rfl, hi⟩)
      (And.intro (show decide ((i : Int) < 6) = true from decide_eq_true (by omega)) trivial)))))))
theorem pb_end (pc fc : List Ch) (e : Int) (rest : List UInt8) : Sound Try.prog 0 false (loopB Try.f6 1) (pbI pc fc e rest 6).aa (.exit 2) (pbE e).aa :=
  roundK_sound (P := Try.prog) (X := rulesY _) (env := [eGet1T, eFGetT, eFAlive]) ⟨eGet1T_ok, eFGetT_ok, eFAlive_ok, trivial⟩ (n := 1) (os := oL []) (fb := 0) (rd := false) (c := (loopB Try.f6 1)) (k := 54) (I := pbI pc fc e rest 6) (sk := [4]) (hk := []) (lk := []) (ex := (.exit 2))
    (L := pbE e) (by kernel_rfl)
    trivial
theorem pv_ok (l : List UInt8) (N : Nat) (C : List Value) (i x : Nat) (hi : i < N) (hs : l.length ≤ 9223372036854775807) (hl : 40 + 32 * i ≤ l.length) (ha : sizes [.n 4 x] = 4 ∧ ((flat [.l C]).drop (i * 4)).take 4 = flat [.n 4 x]) (h1 : gfE ((l.take (40 + 32 * i)).drop (8 + 32 * i)) = 0) (h2 : gfV ((l.take (40 + 32 * i)).drop (8 + 32 * i)) = x) : Sound Try.prog 0 false (loopB Try.f6 2) (pvI l N C ((8 + 32 * i : Nat) : Int)).aa .normal (pvI l N C ((8 + 32 * (i + 1) : Nat) : Int)).aa := by
  have hh := roundK_sound (P := Try.prog) (X := rulesY _) (env := [eGet1T, eFGetT, eFAlive]) ⟨eGet1T_ok, eFGetT_ok, eFAlive_ok, trivial⟩ (n := 1) (os := oL [(18, wT), (22, { ch := 1, hi := fun _ => 40 + 32 * i }), (23, rO 5 0), (32, wF), (39, { ch := 1, hi := fun _ => 32 * i }), (40, { ch := 1, hi := fun _ => i }), (41, wF), (45, { ch := 1, hi := fun _ => 32 * i }), (46, { ch := 1, hi := fun _ => i }), (47, rO 9 i), (48, { ch := 0, hi := fun _ => 0, ru := 8, cs := fun _ => [.n 4 x] }), (50, wO 0), (54, { ch := 1, hi := fun _ => 40 + 32 * i })]) (fb := 0) (rd := false) (c := (loopB Try.f6 2)) (k := 15) (I := pvI l N C ((8 + 32 * i : Nat) : Int)) (sk := [0, 14, 15, 16]) (hk := [8]) (lk := []) (ex := .normal)
    (L := pvI l N C ((40 + 32 * i : Nat) : Int)) (by kernel_rfl)
    (And.intro (show IntKind.i64.wrap (((8 + 32 * i : Nat) : Int) + 32) = ((40 + 32 * i : Nat) : Int) from by rw [wrap_i64]; omega)
      (And.intro (show flat [.n 4 x] = flat [.n 4 (gfV ((l.take (40 + 32 * i)).drop (8 + 32 * i)))] from by rw [h2])
      (And.intro (show sizes [.n 4 x] = 4 ∧ ((flat [.l C]).drop (i * 4)).take 4 = flat [.n 4 x] from ha)
      (And.intro (show ((i : Nat) : Int) = ((i : Nat) : Int) ∧ i < N from ⟨rfl, hi⟩)
      (And.intro (show IntKind.i64.wrap (((32 * i : Nat) : Int).tdiv 32) = ((i : Nat) : Int) from by
        rw [show (((32 * i : Nat) : Int).tdiv 32) = ((i : Nat) : Int) by rw [Int.tdiv_eq_ediv_of_nonneg (by omega)]; omega, wrap_i64]
        omega)
      (And.intro (show IntKind.i64.wrap (((8 + 32 * i : Nat) : Int) - 8) = ((32 * i : Nat) : Int) from by rw [wrap_i64]; omega)
      (And.intro (show decide (((N : Nat) : Int) ≤ ((i : Nat) : Int)) = false from decide_eq_false (by omega))
      (And.intro (show IntKind.i64.wrap (((32 * i : Nat) : Int).tdiv 32) = ((i : Nat) : Int) from by
        rw [show (((32 * i : Nat) : Int).tdiv 32) = ((i : Nat) : Int) by rw [Int.tdiv_eq_ediv_of_nonneg (by omega)]; omega, wrap_i64]
        omega)
      (And.intro (show IntKind.i64.wrap (((8 + 32 * i : Nat) : Int) - 8) = ((32 * i : Nat) : Int) from by rw [wrap_i64]; omega)
      (And.intro (show (gfE ((l.take (40 + 32 * i)).drop (8 + 32 * i)) != 0) = false from by rw [h1]; rfl)
      (And.intro (show (0 : Int) ≤ ((8 + 32 * i : Nat) : Int) ∧ ((8 + 32 * i : Nat) : Int) ≤ ((40 + 32 * i : Nat) : Int) ∧ ((40 + 32 * i : Nat) : Int) ≤ (ofL l).size from ⟨by omega, by omega, by show ((40 + 32 * i : Nat) : Int) ≤ ((l.length : Nat) : Int); omega⟩)
      (And.intro (show IntKind.i64.wrap (((8 + 32 * i : Nat) : Int) + 32) = ((40 + 32 * i : Nat) : Int) from by rw [wrap_i64]; omega)
      (And.intro (show decide (((8 + 32 * i : Nat) : Int) < (((ofL l).size : Nat) : Int)) = true from decide_eq_true (by show ((8 + 32 * i : Nat) : Int) < ((l.length : Nat) : Int); omega)) trivial)))))))))))))
  rw [show ((40 + 32 * i : Nat) : Int) = ((8 + 32 * (i + 1) : Nat) : Int) by omega] at hh
  exact hh
theorem pd_er (l : List UInt8) (e : Int) (he : e ≠ 0) (i : Nat) (hs : l.length ≤ 9223372036854775807) (hl : 40 + 32 * i ≤ l.length) (h1 : gfE ((l.take (40 + 32 * i)).drop (8 + 32 * i)) = 0) : Sound Try.prog 0 false (loopB Try.f6 2) (pdI l e ((8 + 32 * i : Nat) : Int)).aa .normal (pdI l e ((8 + 32 * (i + 1) : Nat) : Int)).aa := by
  have hh := roundK_sound (P := Try.prog) (X := rulesY _) (env := [eGet1T, eFGetT, eFAlive]) ⟨eGet1T_ok, eFGetT_ok, eFAlive_ok, trivial⟩ (n := 1) (os := oL [(18, wT), (22, { ch := 1, hi := fun _ => 40 + 32 * i }), (23, rO 5 0), (32, wF), (34, wF), (54, { ch := 1, hi := fun _ => 40 + 32 * i })]) (fb := 0) (rd := false) (c := (loopB Try.f6 2)) (k := 15) (I := pdI l e ((8 + 32 * i : Nat) : Int)) (sk := [0, 14, 15, 16]) (hk := []) (lk := []) (ex := .normal)
    (L := pdI l e ((40 + 32 * i : Nat) : Int)) (by kernel_rfl)
    (And.intro (show IntKind.i64.wrap (((8 + 32 * i : Nat) : Int) + 32) = ((40 + 32 * i : Nat) : Int) from by rw [wrap_i64]; omega)
      (And.intro (show (e == 0) = false from by simpa using he)
      (And.intro (show (gfE ((l.take (40 + 32 * i)).drop (8 + 32 * i)) != 0) = false from by rw [h1]; rfl)
      (And.intro (show (0 : Int) ≤ ((8 + 32 * i : Nat) : Int) ∧ ((8 + 32 * i : Nat) : Int) ≤ ((40 + 32 * i : Nat) : Int) ∧ ((40 + 32 * i : Nat) : Int) ≤ (ofL l).size from ⟨by omega, by omega, by show ((40 + 32 * i : Nat) : Int) ≤ ((l.length : Nat) : Int); omega⟩)
      (And.intro (show IntKind.i64.wrap (((8 + 32 * i : Nat) : Int) + 32) = ((40 + 32 * i : Nat) : Int) from by rw [wrap_i64]; omega)
      (And.intro (show decide (((8 + 32 * i : Nat) : Int) < (((ofL l).size : Nat) : Int)) = true from decide_eq_true (by show ((8 + 32 * i : Nat) : Int) < ((l.length : Nat) : Int); omega)) trivial))))))
  rw [show ((40 + 32 * i : Nat) : Int) = ((8 + 32 * (i + 1) : Nat) : Int) by omega] at hh
  exact hh
theorem pd_ret (l : List UInt8) (e : Int) (he : e ≠ 0) (i : Nat) (hs : l.length ≤ 9223372036854775807) (hl : 40 + 32 * i ≤ l.length) (h1 : gfE ((l.take (40 + 32 * i)).drop (8 + 32 * i)) = e) : Sound Try.prog 0 false (loopB Try.f6 2) (pdI l e ((8 + 32 * i : Nat) : Int)).aa .ret (pxR).aa :=
  roundK_sound (P := Try.prog) (X := rulesY _) (env := [eGet1T, eFGetT, eFAlive]) ⟨eGet1T_ok, eFGetT_ok, eFAlive_ok, trivial⟩ (n := 1) (os := oL [(18, wT), (22, { ch := 1, hi := fun _ => 40 + 32 * i }), (23, rO 5 0), (32, wT), (37, wT)]) (fb := 0) (rd := false) (c := (loopB Try.f6 2)) (k := 15) (I := pdI l e ((8 + 32 * i : Nat) : Int)) (sk := [2]) (hk := []) (lk := []) (ex := .ret)
    (L := pxR) (by kernel_rfl)
    (And.intro (show (e == gfE ((l.take (40 + 32 * i)).drop (8 + 32 * i))) = true from by rw [h1]; simp)
      (And.intro (show (gfE ((l.take (40 + 32 * i)).drop (8 + 32 * i)) != 0) = true from by rw [h1]; simpa using he)
      (And.intro (show (0 : Int) ≤ ((8 + 32 * i : Nat) : Int) ∧ ((8 + 32 * i : Nat) : Int) ≤ ((40 + 32 * i : Nat) : Int) ∧ ((40 + 32 * i : Nat) : Int) ≤ (ofL l).size from ⟨by omega, by omega, by show ((40 + 32 * i : Nat) : Int) ≤ ((l.length : Nat) : Int); omega⟩)
      (And.intro (show IntKind.i64.wrap (((8 + 32 * i : Nat) : Int) + 32) = ((40 + 32 * i : Nat) : Int) from by rw [wrap_i64]; omega)
      (And.intro (show decide (((8 + 32 * i : Nat) : Int) < (((ofL l).size : Nat) : Int)) = true from decide_eq_true (by show ((8 + 32 * i : Nat) : Int) < ((l.length : Nat) : Int); omega)) trivial)))))
theorem pv_end (l : List UInt8) (N : Nat) (C : List Value) (hl : l.length = 8 + 32 * N) : Sound Try.prog 0 false (loopB Try.f6 2) (pvI l N C ((8 + 32 * N : Nat) : Int)).aa (.exit 4) (pvE l N C).aa :=
  roundK_sound (P := Try.prog) (X := rulesY _) (env := [eGet1T, eFGetT, eFAlive]) ⟨eGet1T_ok, eFGetT_ok, eFAlive_ok, trivial⟩ (n := 1) (os := oL [(18, wF)]) (fb := 0) (rd := false) (c := (loopB Try.f6 2)) (k := 15) (I := pvI l N C ((8 + 32 * N : Nat) : Int)) (sk := [0, 14, 15]) (hk := [8]) (lk := []) (ex := (.exit 4))
    (L := pvE l N C) (by kernel_rfl)
    (And.intro (show decide (((8 + 32 * N : Nat) : Int) < (((ofL l).size : Nat) : Int)) = false from decide_eq_false (by show ¬ ((8 + 32 * N : Nat) : Int) < ((l.length : Nat) : Int); omega)) trivial)
theorem pd_end (l : List UInt8) (e : Int) (hl : l.length = 8) : Sound Try.prog 0 false (loopB Try.f6 2) (pdI l e 8).aa (.exit 4) (pdE l e).aa :=
  roundK_sound (P := Try.prog) (X := rulesY _) (env := [eGet1T, eFGetT, eFAlive]) ⟨eGet1T_ok, eFGetT_ok, eFAlive_ok, trivial⟩ (n := 1) (os := oL [(18, wF)]) (fb := 0) (rd := false) (c := (loopB Try.f6 2)) (k := 15) (I := pdI l e 8) (sk := [0, 14, 15]) (hk := []) (lk := []) (ex := (.exit 4))
    (L := pdE l e) (by kernel_rfl)
    (And.intro (show decide ((8 : Int) < (((ofL l).size : Nat) : Int)) = false from decide_eq_false (by show ¬ (8 : Int) < ((l.length : Nat) : Int); omega)) trivial)
end Go.Proofs.Ytmbllhibdbeplaa

/- chirographlaw23.FormatParts: bytes of the right length are refused for just their first part that may not be; else they are the value of their parts. -/
set_option linter.unusedSimpArgs false
set_option linter.unusedVariables false
namespace Go.Proofs.Ytmbllhibdbeplaa
open Go.Ev Go.RowKit
theorem rvl_all {α : Type} {sz : Nat} {E : List UInt8 → Int} {V : List UInt8 → α} {z : α} {l : List UInt8} (n : Nat) (h : ∀ i, i < n → E (chk sz l i) = 0) : rvl sz V z (nst sz E n (0, l)) = V (chk sz l n) := by
  rw [nst_all n h]; rfl
theorem gp_pt (st : Int × List UInt8) (i : Nat) (hi : i < 9) : (gpVal st).pts[i]? = some (rvl 48 g1V p1z (nst 48 g1E i st)) := by
  match i, hi with
  | 0, _ => rfl
  | 1, _ => rfl
  | 2, _ => rfl
  | 3, _ => rfl
  | 4, _ => rfl
  | 5, _ => rfl
  | 6, _ => rfl
  | 7, _ => rfl
  | 8, _ => rfl
theorem gp_nm (st : Int × List UInt8) (i : Nat) (hi : i < 6) : (gpVal st).nums[i]? = some (rvl 32 gfV 0 (nst 32 gfE i (nst 48 g1E 9 st))) := by
  match i, hi with
  | 0, _ => rfl
  | 1, _ => rfl
  | 2, _ => rfl
  | 3, _ => rfl
  | 4, _ => rfl
  | 5, _ => rfl
theorem cc_chk (l : List UInt8) (i : Nat) : (l.take (40 + 32 * i)).drop (8 + 32 * i) = chk 32 ((l.drop 4).drop 4) i := by
  unfold chk
  rw [List.drop_drop, List.drop_drop, List.drop_take, show 40 + 32 * i - (8 + 32 * i) = 32 by omega, show 4 + (4 + 32 * i) = 8 + 32 * i by omega]
theorem pa_all0 (p : PF) (r : List UInt8) (hr : 432 ≤ r.length) (hg : ∀ i, i < 9 → g1E (chk 48 r i) = 0) (hv : ∀ i, i < 9 → p.pts[i]? = some (g1V (chk 48 r i))) : Sound Try.prog 0 false (.loop (loopB Try.f6 0)) (paI p.ch p.pc 0 r 0).aa (.exit 0) (paE p.ch 0 (r.drop 432)).aa := by
  have hh := loop_ok (P := Try.prog) (fb := 0) (rd := false) (body := (loopB Try.f6 0)) (ex := (.exit 0)) (E := paE p.ch 0 (r.drop 432)) (m := fun y : { i : Nat // i ≤ 9 } => 9 - y.val) (fun y => paI p.ch p.pc 0 (r.drop (48 * y.val)) (y.val : Int)) (by simp) (fun y => ?_) ⟨0, by omega⟩
  · exact hh
  obtain ⟨i, hi⟩ := y
  by_cases e0 : i < 9
  · refine .inl ⟨⟨i + 1, e0⟩, by show 9 - (i + 1) < 9 - i; omega, ?_⟩
    have hd : (r.drop (48 * i)).drop 48 = r.drop (48 * (i + 1)) := by rw [List.drop_drop, Nat.mul_succ]
    have hl : 48 ≤ (r.drop (48 * i)).length := by rw [List.length_drop]; omega
    have h1 := pa_ok p (r.drop (48 * i)) i _ e0 (hv i e0) hl (hg i e0) rfl
    rw [hd] at h1
    exact h1
  · have e0 : i = 9 := by omega
    subst e0
    exact .inr (pa_end0 p _)
theorem pa_all1 (e : Int) (he : e ≠ 0) (r : List UInt8) (hr : 432 ≤ r.length) (hg : ∀ i, i < 9 → g1E (chk 48 r i) = 0) : Sound Try.prog 0 false (.loop (loopB Try.f6 0)) (paI z141 z9L e r 0).aa (.exit 0) (paE z141 e (r.drop 432)).aa := by
  have hh := loop_ok (P := Try.prog) (fb := 0) (rd := false) (body := (loopB Try.f6 0)) (ex := (.exit 0)) (E := paE z141 e (r.drop 432)) (m := fun y : { i : Nat // i ≤ 9 } => 9 - y.val) (fun y => paI z141 z9L e (r.drop (48 * y.val)) (y.val : Int)) (by simp) (fun y => ?_) ⟨0, by omega⟩
  · exact hh
  obtain ⟨i, hi⟩ := y
  by_cases e0 : i < 9
  · refine .inl ⟨⟨i + 1, e0⟩, by show 9 - (i + 1) < 9 - i; omega, ?_⟩
    have hd : (r.drop (48 * i)).drop 48 = r.drop (48 * (i + 1)) := by rw [List.drop_drop, Nat.mul_succ]
    have hl : 48 ≤ (r.drop (48 * i)).length := by rw [List.length_drop]; omega
    have h1 := pa_er e he (r.drop (48 * i)) i e0 hl (hg i e0)
    rw [hd] at h1
    exact h1
  · have e0 : i = 9 := by omega
    subst e0
    exact .inr (pa_end1 e _)
theorem pa_no (e : Int) (he : e ≠ 0) (r : List UInt8) (hr : 432 ≤ r.length) (j : Nat) (hj : j < 9) (hg : ∀ i, i < j → g1E (chk 48 r i) = 0) (hb : g1E (chk 48 r j) = e) : Sound Try.prog 0 false (.loop (loopB Try.f6 0)) (paI z141 z9L e r 0).aa .ret (pxR).aa := by
  have hh := loop_ok (P := Try.prog) (fb := 0) (rd := false) (body := (loopB Try.f6 0)) (ex := .ret) (E := pxR) (m := fun y : { i : Nat // i ≤ j } => j - y.val) (fun y => paI z141 z9L e (r.drop (48 * y.val)) (y.val : Int)) (by simp) (fun y => ?_) ⟨0, by omega⟩
  · exact hh
  obtain ⟨i, hi⟩ := y
  by_cases e0 : i < j
  · refine .inl ⟨⟨i + 1, e0⟩, by show j - (i + 1) < j - i; omega, ?_⟩
    have hd : (r.drop (48 * i)).drop 48 = r.drop (48 * (i + 1)) := by rw [List.drop_drop, Nat.mul_succ]
    have hl : 48 ≤ (r.drop (48 * i)).length := by rw [List.length_drop]; omega
    have h1 := pa_er e he (r.drop (48 * i)) i (by omega) hl (hg i e0)
    rw [hd] at h1
    exact h1
  · have e0 : i = j := by omega
    subst e0
    exact .inr (pa_ret e he _ i hj (by rw [List.length_drop]; show 48 ≤ r.length - 48 * i; omega) hb)
theorem pb_all0 (p : PF) (r : List UInt8) (hr : 192 ≤ r.length) (hg : ∀ i, i < 6 → gfE (chk 32 r i) = 0) (hv : ∀ i, i < 6 → p.nums[i]? = some (gfV (chk 32 r i))) : Sound Try.prog 0 false (.loop (loopB Try.f6 1)) (pbI p.ch p.nc 0 r 0).aa (.exit 2) (pbE 0).aa := by
  have hh := loop_ok (P := Try.prog) (fb := 0) (rd := false) (body := (loopB Try.f6 1)) (ex := (.exit 2)) (E := pbE 0) (m := fun y : { i : Nat // i ≤ 6 } => 6 - y.val) (fun y => pbI p.ch p.nc 0 (r.drop (32 * y.val)) (y.val : Int)) (by simp) (fun y => ?_) ⟨0, by omega⟩
  · exact hh
  obtain ⟨i, hi⟩ := y
  by_cases e0 : i < 6
  · refine .inl ⟨⟨i + 1, e0⟩, by show 6 - (i + 1) < 6 - i; omega, ?_⟩
    have hd : (r.drop (32 * i)).drop 32 = r.drop (32 * (i + 1)) := by rw [List.drop_drop, Nat.mul_succ]
    have hl : 32 ≤ (r.drop (32 * i)).length := by rw [List.length_drop]; omega
    have h1 := pb_ok p (r.drop (32 * i)) i _ e0 (hv i e0) hl (hg i e0) rfl
    rw [hd] at h1
    exact h1
  · have e0 : i = 6 := by omega
    subst e0
    exact .inr (pb_end _ _ 0 _)
theorem pb_no (e : Int) (he : e ≠ 0) (r : List UInt8) (hr : 192 ≤ r.length) (j : Nat) (hj : j < 6) (hg : ∀ i, i < j → gfE (chk 32 r i) = 0) (hb : gfE (chk 32 r j) = e) : Sound Try.prog 0 false (.loop (loopB Try.f6 1)) (pbI z141 z24L e r 0).aa .ret (pxR).aa := by
  have hh := loop_ok (P := Try.prog) (fb := 0) (rd := false) (body := (loopB Try.f6 1)) (ex := .ret) (E := pxR) (m := fun y : { i : Nat // i ≤ j } => j - y.val) (fun y => pbI z141 z24L e (r.drop (32 * y.val)) (y.val : Int)) (by simp) (fun y => ?_) ⟨0, by omega⟩
  · exact hh
  obtain ⟨i, hi⟩ := y
  by_cases e0 : i < j
  · refine .inl ⟨⟨i + 1, e0⟩, by show j - (i + 1) < j - i; omega, ?_⟩
    have hd : (r.drop (32 * i)).drop 32 = r.drop (32 * (i + 1)) := by rw [List.drop_drop, Nat.mul_succ]
    have hl : 32 ≤ (r.drop (32 * i)).length := by rw [List.length_drop]; omega
    have h1 := pb_er e he (r.drop (32 * i)) i (by omega) hl (hg i e0)
    rw [hd] at h1
    exact h1
  · have e0 : i = j := by omega
    subst e0
    exact .inr (pb_ret e he _ i hj (by rw [List.length_drop]; show 32 ≤ r.length - 32 * i; omega) hb)
theorem pv_all0 (l : List UInt8) (ns : List Nat) (hs : l.length ≤ 9223372036854775807) (hl : l.length = 8 + 32 * ns.length) (hg : ∀ i, i < ns.length → gfE (chk 32 ((l.drop 4).drop 4) i) = 0) (hv : ∀ i, i < ns.length → ns[i]? = some (gfV (chk 32 ((l.drop 4).drop 4) i))) : Sound Try.prog 0 false (.loop (loopB Try.f6 2)) (pvI l ns.length (numC 4 ns) 8).aa (.exit 4) (pvE l ns.length (numC 4 ns)).aa := by
  have hh := loop_ok (P := Try.prog) (fb := 0) (rd := false) (body := (loopB Try.f6 2)) (ex := (.exit 4)) (E := pvE l ns.length (numC 4 ns)) (m := fun y : { i : Nat // i ≤ ns.length } => ns.length - y.val) (fun y => pvI l ns.length (numC 4 ns) ((8 + 32 * y.val : Nat) : Int)) (by simp) (fun y => ?_) ⟨0, by omega⟩
  · exact hh
  obtain ⟨i, hi⟩ := y
  by_cases e0 : i < ns.length
  · refine .inl ⟨⟨i + 1, e0⟩, by show ns.length - (i + 1) < ns.length - i; omega, ?_⟩
    exact pv_ok l ns.length (numC 4 ns) i _ e0 hs (by omega) (num_at ns i _ (hv i e0)) (by rw [cc_chk]; exact hg i e0) (by rw [cc_chk])
  · have e0 : i = ns.length := by omega
    subst e0
    exact .inr (pv_end l _ _ hl)
theorem pd_no (l : List UInt8) (e : Int) (he : e ≠ 0) (N : Nat) (hs : l.length ≤ 9223372036854775807) (hl : l.length = 8 + 32 * N) (j : Nat) (hj : j < N) (hg : ∀ i, i < j → gfE (chk 32 ((l.drop 4).drop 4) i) = 0) (hb : gfE (chk 32 ((l.drop 4).drop 4) j) = e) : Sound Try.prog 0 false (.loop (loopB Try.f6 2)) (pdI l e 8).aa .ret (pxR).aa := by
  have hh := loop_ok (P := Try.prog) (fb := 0) (rd := false) (body := (loopB Try.f6 2)) (ex := .ret) (E := pxR) (m := fun y : { i : Nat // i ≤ j } => j - y.val) (fun y => pdI l e ((8 + 32 * y.val : Nat) : Int)) (by simp) (fun y => ?_) ⟨0, by omega⟩
  · exact hh
  obtain ⟨i, hi⟩ := y
  by_cases e0 : i < j
  · refine .inl ⟨⟨i + 1, e0⟩, by show j - (i + 1) < j - i; omega, ?_⟩
    exact pd_er l e he i hs (by omega) (by rw [cc_chk]; exact hg i e0)
  · have e0 : i = j := by omega
    subst e0
    exact .inr (pd_ret l e he i hs (by omega) (by rw [cc_chk]; exact hb))
theorem fpA1 (l : List UInt8) (hs : l.length ≤ 9223372036854775807) (hp : shP l = 0) (hn : l.length = 628) (he : gpEr l = 0) (g1 : ∀ i, i < 9 → g1E (chk 48 (l.drop 4) i) = 0) (v1 : ∀ i, i < 9 → (gpR l).pts[i]? = some (g1V (chk 48 (l.drop 4) i))) (g2 : ∀ i, i < 6 → gfE (chk 32 ((l.drop 4).drop 432) i) = 0) (v2 : ∀ i, i < 6 → (gpR l).nums[i]? = some (gfV (chk 32 ((l.drop 4).drop 432) i))) : Gives Try.prog 6 [.t (.v (.string (ofL l)))] (.v (.bool true)) :=
  fn_gives_at (P := Try.prog) (X := rulesY _) (env := [eGet1T, eFGetT, eFAlive]) ⟨eGet1T_ok, eFGetT_ok, eFAlive_ok, trivial⟩ Try.func6 1 (oL [(2, { ch := 0, hi := fun _ => 0, ex := 7, av := fun _ => .v (.int .i64 0) }), (5, { ch := 0, hi := fun _ => 0, ex := 7, av := fun _ => .tp [.ag (gpR l).ch, .v (.int .i64 0)] }), (13, rO 5 0), (38, lpO { I := paI (gpR l).ch (gpR l).pc 0 (l.drop 4) 0, ex := .exit 0, E := paE (gpR l).ch 0 ((l.drop 4).drop 432), fr := 39 }), (54, lpO { I := pbI (gpR l).ch (gpR l).nc 0 ((l.drop 4).drop 432) 0, ex := .exit 2, E := pbE 0, fr := 55 })]) (by kernel_rfl) ⟨_, rfl⟩
    (And.intro (show some (pbI (gpR l).ch (gpR l).nc 0 ((l.drop 4).drop 432) 0) = some (pbI (gpR l).ch (gpR l).nc 0 ((l.drop 4).drop 432) 0) from rfl)
      (And.intro (pb_all0 (gpR l) ((l.drop 4).drop 432) (by rw [List.length_drop, List.length_drop]; omega) g2 v2)
      (And.intro (show some (paI (gpR l).ch (gpR l).pc 0 (l.drop 4) 0) = some (paI (gpR l).ch (gpR l).pc 0 (l.drop 4) 0) from rfl)
      (And.intro (pa_all0 (gpR l) (l.drop 4) (by rw [List.length_drop]; omega) g1 v1)
      (And.intro (show (0 : Int) ≤ 4 ∧ (4 : Int) ≤ (ofL l).size from ⟨by decide, by show (4 : Int) ≤ (l.length : Nat); omega⟩)
      (And.intro (show GivesE Try.prog 22 [.t (.v (.string (ofL l)))] (.tp [.ag (gpR l).ch, .v (.int .i64 0)]) from ⟨fun vs w => Go.Proofs.enters_of (P := Try.prog) Try.func22 (by kernel_rfl) rfl vs w, gp_yes l he⟩)
      (And.intro (show GivesE Try.prog 21 [.t (.v (.string (ofL mgP))), .t (.v (.string (ofL l)))] (.v (.int .i64 0)) from ⟨fun vs w => Go.Proofs.enters_of (P := Try.prog) Try.func21 (by kernel_rfl) rfl vs w, (by have h1 := shP_gives l hs; rw [hp] at h1; exact h1)⟩) trivial)))))))
theorem fpA2 (l : List UInt8) (hs : l.length ≤ 9223372036854775807) (hp : shP l = 0) (hn : l.length = 628) (he : gpEr l ≠ 0) (j : Nat) (hj : j < 9) (hg : ∀ i, i < j → g1E (chk 48 (l.drop 4) i) = 0) (hb : g1E (chk 48 (l.drop 4) j) = gpEr l) : Gives Try.prog 6 [.t (.v (.string (ofL l)))] (.v (.bool true)) :=
  fn_gives_at (P := Try.prog) (X := rulesY _) (env := [eGet1T, eFGetT, eFAlive]) ⟨eGet1T_ok, eFGetT_ok, eFAlive_ok, trivial⟩ Try.func6 1 (oL [(2, { ch := 0, hi := fun _ => 0, ex := 7, av := fun _ => .v (.int .i64 0) }), (5, { ch := 0, hi := fun _ => 0, ex := 7, av := fun _ => .tp [.ag z141, .v (.int .i64 (gpEr l))] }), (13, rO 5 0), (38, lpO { I := paI z141 z9L (gpEr l) (l.drop 4) 0, ex := .ret, E := pxR, fr := 39 })]) (by kernel_rfl) ⟨_, rfl⟩
    (And.intro (show some (paI z141 z9L (gpEr l) (l.drop 4) 0) = some (paI z141 z9L (gpEr l) (l.drop 4) 0) from rfl)
      (And.intro (pa_no (gpEr l) he (l.drop 4) (by rw [List.length_drop]; omega) j hj hg hb)
      (And.intro (show (0 : Int) ≤ 4 ∧ (4 : Int) ≤ (ofL l).size from ⟨by decide, by show (4 : Int) ≤ (l.length : Nat); omega⟩)
      (And.intro (show GivesE Try.prog 22 [.t (.v (.string (ofL l)))] (.tp [.ag z141, .v (.int .i64 (gpEr l))]) from ⟨fun vs w => Go.Proofs.enters_of (P := Try.prog) Try.func22 (by kernel_rfl) rfl vs w, gp_no l he⟩)
      (And.intro (show GivesE Try.prog 21 [.t (.v (.string (ofL mgP))), .t (.v (.string (ofL l)))] (.v (.int .i64 0)) from ⟨fun vs w => Go.Proofs.enters_of (P := Try.prog) Try.func21 (by kernel_rfl) rfl vs w, (by have h1 := shP_gives l hs; rw [hp] at h1; exact h1)⟩) trivial)))))
theorem fpA3 (l : List UInt8) (hs : l.length ≤ 9223372036854775807) (hp : shP l = 0) (hn : l.length = 628) (he : gpEr l ≠ 0) (g1 : ∀ i, i < 9 → g1E (chk 48 (l.drop 4) i) = 0) (j : Nat) (hj : j < 6) (hg : ∀ i, i < j → gfE (chk 32 ((l.drop 4).drop 432) i) = 0) (hb : gfE (chk 32 ((l.drop 4).drop 432) j) = gpEr l) : Gives Try.prog 6 [.t (.v (.string (ofL l)))] (.v (.bool true)) :=
  fn_gives_at (P := Try.prog) (X := rulesY _) (env := [eGet1T, eFGetT, eFAlive]) ⟨eGet1T_ok, eFGetT_ok, eFAlive_ok, trivial⟩ Try.func6 1 (oL [(2, { ch := 0, hi := fun _ => 0, ex := 7, av := fun _ => .v (.int .i64 0) }), (5, { ch := 0, hi := fun _ => 0, ex := 7, av := fun _ => .tp [.ag z141, .v (.int .i64 (gpEr l))] }), (13, rO 5 0), (38, lpO { I := paI z141 z9L (gpEr l) (l.drop 4) 0, ex := .exit 0, E := paE z141 (gpEr l) ((l.drop 4).drop 432), fr := 39 }), (54, lpO { I := pbI z141 z24L (gpEr l) ((l.drop 4).drop 432) 0, ex := .ret, E := pxR, fr := 55 })]) (by kernel_rfl) ⟨_, rfl⟩
    (And.intro (show some (pbI z141 z24L (gpEr l) ((l.drop 4).drop 432) 0) = some (pbI z141 z24L (gpEr l) ((l.drop 4).drop 432) 0) from rfl)
      (And.intro (pb_no (gpEr l) he ((l.drop 4).drop 432) (by rw [List.length_drop, List.length_drop]; omega) j hj hg hb)
      (And.intro (show some (paI z141 z9L (gpEr l) (l.drop 4) 0) = some (paI z141 z9L (gpEr l) (l.drop 4) 0) from rfl)
      (And.intro (pa_all1 (gpEr l) he (l.drop 4) (by rw [List.length_drop]; omega) g1)
      (And.intro (show (0 : Int) ≤ 4 ∧ (4 : Int) ≤ (ofL l).size from ⟨by decide, by show (4 : Int) ≤ (l.length : Nat); omega⟩)
      (And.intro (show GivesE Try.prog 22 [.t (.v (.string (ofL l)))] (.tp [.ag z141, .v (.int .i64 (gpEr l))]) from ⟨fun vs w => Go.Proofs.enters_of (P := Try.prog) Try.func22 (by kernel_rfl) rfl vs w, gp_no l he⟩)
      (And.intro (show GivesE Try.prog 21 [.t (.v (.string (ofL mgP))), .t (.v (.string (ofL l)))] (.v (.int .i64 0)) from ⟨fun vs w => Go.Proofs.enters_of (P := Try.prog) Try.func21 (by kernel_rfl) rfl vs w, (by have h1 := shP_gives l hs; rw [hp] at h1; exact h1)⟩) trivial)))))))
theorem fpB3 (l : List UInt8) (hs : l.length ≤ 9223372036854775807) (hp : shP l ≠ 0) (hw : shW l = 0) (N : Nat) (hl : l.length = 8 + 32 * N) (he : gnEr l ≠ 0) (hr : Gives Try.prog 25 [.t (.v (.string (ofL l)))] (.tp [.v (.slice none 0 0), .v (.int .i64 (gnEr l))])) (j : Nat) (hj : j < N) (hg : ∀ i, i < j → gfE (chk 32 ((l.drop 4).drop 4) i) = 0) (hb : gfE (chk 32 ((l.drop 4).drop 4) j) = gnEr l) : Gives Try.prog 6 [.t (.v (.string (ofL l)))] (.v (.bool true)) :=
  fn_gives_at (P := Try.prog) (X := rulesY _) (env := [eGet1T, eFGetT, eFAlive]) ⟨eGet1T_ok, eFGetT_ok, eFAlive_ok, trivial⟩ Try.func6 1 (oL [(2, { ch := 0, hi := fun _ => 0, ex := 7, av := fun _ => .v (.int .i64 (shP l)) }), (3, wF), (5, { ch := 0, hi := fun _ => 0, ex := 7, av := fun _ => .v (.int .i64 0) }), (8, { ch := 0, hi := fun _ => 0, ex := 7, av := fun _ => .tp [.v (.slice none 0 0), .v (.int .i64 (gnEr l))] }), (15, lpO { I := pdI l (gnEr l) 8, ex := .ret, E := pxR, fr := 16 })]) (by kernel_rfl) ⟨_, rfl⟩
    (And.intro (show some (pdI l (gnEr l) 8) = some (pdI l (gnEr l) 8) from rfl)
      (And.intro (pd_no l (gnEr l) he N hs hl j hj hg hb)
      (And.intro (show GivesE Try.prog 25 [.t (.v (.string (ofL l)))] (.tp [.v (.slice none 0 0), .v (.int .i64 (gnEr l))]) from ⟨fun vs w => Go.Proofs.enters_of (P := Try.prog) Try.func25 (by kernel_rfl) rfl vs w, hr⟩)
      (And.intro (show GivesE Try.prog 21 [.t (.v (.string (ofL mgW))), .t (.v (.string (ofL l)))] (.v (.int .i64 0)) from ⟨fun vs w => Go.Proofs.enters_of (P := Try.prog) Try.func21 (by kernel_rfl) rfl vs w, (by have h1 := shW_gives l hs; rw [hw] at h1; exact h1)⟩)
      (And.intro (show (shP l == 0) = false from by simpa using hp)
      (And.intro (show GivesE Try.prog 21 [.t (.v (.string (ofL mgP))), .t (.v (.string (ofL l)))] (.v (.int .i64 (shP l))) from ⟨fun vs w => Go.Proofs.enters_of (P := Try.prog) Try.func21 (by kernel_rfl) rfl vs w, shP_gives l hs⟩) trivial))))))
theorem fpB1 (l : List UInt8) (hs : l.length ≤ 9223372036854775807) (hp : shP l ≠ 0) (hw : shW l = 0) (hl : l.length = 8) (hr : Gives Try.prog 25 [.t (.v (.string (ofL l)))] (.tp [.v (.slice none 0 0), .v (.int .i64 0)])) : Gives Try.prog 6 [.t (.v (.string (ofL l)))] (.v (.bool true)) :=
  fn_gives_at (P := Try.prog) (X := rulesY _) (env := [eGet1T, eFGetT, eFAlive]) ⟨eGet1T_ok, eFGetT_ok, eFAlive_ok, trivial⟩ Try.func6 1 (oL [(2, { ch := 0, hi := fun _ => 0, ex := 7, av := fun _ => .v (.int .i64 (shP l)) }), (3, wF), (5, { ch := 0, hi := fun _ => 0, ex := 7, av := fun _ => .v (.int .i64 0) }), (8, { ch := 0, hi := fun _ => 0, ex := 7, av := fun _ => .tp [.v (.slice none 0 0), .v (.int .i64 0)] }), (15, lpO { I := pdI l 0 8, ex := .exit 4, E := pdE l 0, fr := 16 }), (26, { ch := 1, hi := fun _ => 0 })]) (by kernel_rfl) ⟨_, rfl⟩
    (And.intro (show IntKind.i64.wrap ((((ofL l).size : Nat) : Int) - 8) = ((0 : Nat) : Int) from by
        show IntKind.i64.wrap (((l.length : Nat) : Int) - 8) = _
        rw [wrap_i64]; omega)
      (And.intro (show some (pdI l 0 8) = some (pdI l 0 8) from rfl)
      (And.intro (loop_now (pd_end l 0 hl))
      (And.intro (show GivesE Try.prog 25 [.t (.v (.string (ofL l)))] (.tp [.v (.slice none 0 0), .v (.int .i64 0)]) from ⟨fun vs w => Go.Proofs.enters_of (P := Try.prog) Try.func25 (by kernel_rfl) rfl vs w, hr⟩)
      (And.intro (show GivesE Try.prog 21 [.t (.v (.string (ofL mgW))), .t (.v (.string (ofL l)))] (.v (.int .i64 0)) from ⟨fun vs w => Go.Proofs.enters_of (P := Try.prog) Try.func21 (by kernel_rfl) rfl vs w, (by have h1 := shW_gives l hs; rw [hw] at h1; exact h1)⟩)
      (And.intro (show (shP l == 0) = false from by simpa using hp)
      (And.intro (show GivesE Try.prog 21 [.t (.v (.string (ofL mgP))), .t (.v (.string (ofL l)))] (.v (.int .i64 (shP l))) from ⟨fun vs w => Go.Proofs.enters_of (P := Try.prog) Try.func21 (by kernel_rfl) rfl vs w, shP_gives l hs⟩) trivial)))))))
theorem fpB2 (l : List UInt8) (hs : l.length ≤ 9223372036854775807) (hp : shP l ≠ 0) (hw : shW l = 0) (ns : List Nat) (hl : l.length = 8 + 32 * ns.length) (hr : GivesN Try.prog 25 [.t (.v (.string (ofL l)))] (fun k => .tp [.sx k ns.length, .v (.int .i64 0)]) (.gr [.l (numC 4 ns)] 32 4)) (hg : ∀ i, i < ns.length → gfE (chk 32 ((l.drop 4).drop 4) i) = 0) (hv : ∀ i, i < ns.length → ns[i]? = some (gfV (chk 32 ((l.drop 4).drop 4) i))) : Gives Try.prog 6 [.t (.v (.string (ofL l)))] (.v (.bool true)) :=
  fn_gives_at (P := Try.prog) (X := rulesY _) (env := [eGet1T, eFGetT, eFAlive]) ⟨eGet1T_ok, eFGetT_ok, eFAlive_ok, trivial⟩ Try.func6 1 (oL [(2, { ch := 0, hi := fun _ => 0, ex := 7, av := fun _ => .v (.int .i64 (shP l)) }), (3, wF), (5, { ch := 0, hi := fun _ => 0, ex := 7, av := fun _ => .v (.int .i64 0) }), (8, { ch := 0, hi := fun _ => 0, ex := 4, av := fun k => .tp [.sx k ns.length, .v (.int .i64 0)], lp := some { kd := 9, I := { n := 0, sl := [] }, ex := .normal, E := { n := 0, sl := [], hp := [(0, .gr [.l (numC 4 ns)] 32 4)] }, fr := 0 } }), (15, lpO { I := pvI l ns.length (numC 4 ns) 8, ex := .exit 4, E := pvE l ns.length (numC 4 ns), fr := 16 }), (26, { ch := 1, hi := fun _ => 32 * ns.length }), (27, { ch := 1, hi := fun _ => ns.length }), (28, wT)]) (by kernel_rfl) ⟨_, rfl⟩
    (And.intro (show (((ns.length : Nat) : Int) == ((ns.length : Nat) : Int)) = true from by simp)
      (And.intro (show IntKind.i64.wrap (((32 * ns.length : Nat) : Int).tdiv 32) = ((ns.length : Nat) : Int) from by
        rw [show (((32 * ns.length : Nat) : Int).tdiv 32) = ((ns.length : Nat) : Int) by rw [Int.tdiv_eq_ediv_of_nonneg (by omega)]; omega, wrap_i64]
        omega)
      (And.intro (show IntKind.i64.wrap ((((ofL l).size : Nat) : Int) - 8) = ((32 * ns.length : Nat) : Int) from by
        show IntKind.i64.wrap (((l.length : Nat) : Int) - 8) = _
        rw [wrap_i64]; omega)
      (And.intro (show some (pvI l ns.length (numC 4 ns) 8) = some (pvI l ns.length (numC 4 ns) 8) from rfl)
      (And.intro (pv_all0 l ns hs hl hg hv)
      (And.intro (show GivesN Try.prog 25 [.t (.v (.string (ofL l)))] (fun k => .tp [.sx k ns.length, .v (.int .i64 0)]) (.gr [.l (numC 4 ns)] 32 4) from hr)
      (And.intro (show GivesE Try.prog 21 [.t (.v (.string (ofL mgW))), .t (.v (.string (ofL l)))] (.v (.int .i64 0)) from ⟨fun vs w => Go.Proofs.enters_of (P := Try.prog) Try.func21 (by kernel_rfl) rfl vs w, (by have h1 := shW_gives l hs; rw [hw] at h1; exact h1)⟩)
      (And.intro (show (shP l == 0) = false from by simpa using hp)
      (And.intro (show GivesE Try.prog 21 [.t (.v (.string (ofL mgP))), .t (.v (.string (ofL l)))] (.v (.int .i64 (shP l))) from ⟨fun vs w => Go.Proofs.enters_of (P := Try.prog) Try.func21 (by kernel_rfl) rfl vs w, shP_gives l hs⟩) trivial)))))))))
theorem fpC (l : List UInt8) (hs : l.length ≤ 9223372036854775807) (hp : shP l ≠ 0) (hw : shW l ≠ 0) : Gives Try.prog 6 [.t (.v (.string (ofL l)))] (.v (.bool true)) :=
  fn_gives_at (P := Try.prog) (X := rulesY _) (env := [eGet1T, eFGetT, eFAlive]) ⟨eGet1T_ok, eFGetT_ok, eFAlive_ok, trivial⟩ Try.func6 1 (oL [(2, { ch := 0, hi := fun _ => 0, ex := 7, av := fun _ => .v (.int .i64 (shP l)) }), (3, wF), (5, { ch := 0, hi := fun _ => 0, ex := 7, av := fun _ => .v (.int .i64 (shW l)) }), (6, wF)]) (by kernel_rfl) ⟨_, rfl⟩
    (And.intro (show (shW l == 0) = false from by simpa using hw)
      (And.intro (show GivesE Try.prog 21 [.t (.v (.string (ofL mgW))), .t (.v (.string (ofL l)))] (.v (.int .i64 (shW l))) from ⟨fun vs w => Go.Proofs.enters_of (P := Try.prog) Try.func21 (by kernel_rfl) rfl vs w, shW_gives l hs⟩)
      (And.intro (show (shP l == 0) = false from by simpa using hp)
      (And.intro (show GivesE Try.prog 21 [.t (.v (.string (ofL mgP))), .t (.v (.string (ofL l)))] (.v (.int .i64 (shP l))) from ⟨fun vs w => Go.Proofs.enters_of (P := Try.prog) Try.func21 (by kernel_rfl) rfl vs w, shP_gives l hs⟩) trivial))))
theorem formatParts_list (l : List UInt8) (hs : l.length ≤ 9223372036854775807) : Gives Try.prog 6 [.t (.v (.string (ofL l)))] (.v (.bool true)) := by
  by_cases hp : shP l = 0
  · have h0 := hp
    unfold shP at h0
    have hm : l.take 4 = mgP := by
      by_cases hm : l.take 4 = mgP
      · exact hm
      · rw [if_neg hm] at h0; exact absurd h0 (by decide)
    rw [if_pos hm] at h0
    have hn : l.length = 628 := by
      by_cases hn : l.length = 628
      · exact hn
      · rw [if_neg hn] at h0; exact absurd h0 (by decide)
    have eE : gpEr l = (gpSt (0, l.drop 4)).1 := (if_pos hm).trans (if_pos hn)
    by_cases he : gpEr l = 0
    · obtain ⟨h1, _, h3⟩ := nst_zero 6 (nst 48 g1E 9 (0, l.drop 4)) (eE.symm.trans he)
      obtain ⟨_, h2, h4⟩ := nst_zero 9 (0, l.drop 4) h1
      have h5 : (nst 48 g1E 9 (0, l.drop 4)).2 = (l.drop 4).drop 432 := by rw [h2]
      rw [h5] at h3
      refine fpA1 l hs hp hn he h4 (fun i hi => ?_) h3 (fun i hi => ?_)
      · rw [show (gpR l).pts[i]? = _ from gp_pt (0, l.drop 4) i hi, rvl_all i (fun k hk => h4 k (by omega))]
      · rw [show (gpR l).nums[i]? = _ from gp_nm (0, l.drop 4) i hi, h2, rvl_all i (fun k hk => h3 k (by omega))]
    · by_cases h9 : (nst 48 g1E 9 (0, l.drop 4)).1 = 0
      · obtain ⟨_, h2, h4⟩ := nst_zero 9 (0, l.drop 4) h9
        have e2 : gpEr l = (nst 32 gfE 6 (0, (l.drop 4).drop 432)).1 := by
          rw [eE]
          unfold gpSt
          rw [h2]
        obtain ⟨j, h5, h6, h7⟩ := nst_first 6 (l := (l.drop 4).drop 432) (by rw [← e2]; exact he)
        exact fpA3 l hs hp hn he h4 j h5 h6 (h7.trans e2.symm)
      · have e2 : gpEr l = (nst 48 g1E 9 (0, l.drop 4)).1 := by
          rw [eE]
          unfold gpSt
          rw [nst_bad h9]
        obtain ⟨j, h5, h6, h7⟩ := nst_first 9 (l := l.drop 4) h9
        exact fpA2 l hs hp hn he j h5 h6 (h7.trans e2.symm)
  · by_cases hw : shW l = 0
    · have h0 := hw
      unfold shW at h0
      have hm : l.take 4 = mgW := by
        by_cases hm : l.take 4 = mgW
        · exact hm
        · rw [if_neg hm] at h0; exact absurd h0 (by decide)
      rw [if_pos hm] at h0
      have hn := take_len hm rfl
      by_cases h4 : (l.drop 4).length < 4
      · rw [if_pos h4] at h0; exact absurd h0 (by decide)
      rw [if_neg h4] at h0
      by_cases hN : 64 < c4 (l.drop 4)
      · rw [if_pos hN] at h0; exact absurd h0 (by decide)
      rw [if_neg hN] at h0
      have hx : l.length - 4 = 4 + 32 * c4 (l.drop 4) := by
        by_cases hx : l.length - 4 = 4 + 32 * c4 (l.drop 4)
        · exact hx
        · rw [if_neg hx] at h0; exact absurd h0 (by decide)
      have hl : l.length = 8 + 32 * c4 (l.drop 4) := by omega
      have hz : ((l.drop 4).drop 4).length = 32 * c4 (l.drop 4) := by rw [List.length_drop, List.length_drop]; omega
      have eE : gnEr l = (nst 32 gfE (c4 (l.drop 4)) (0, (l.drop 4).drop 4)).1 := (if_pos hm).trans ((if_neg h4).trans ((if_neg hN).trans (if_pos hz)))
      by_cases he : gnEr l = 0
      · obtain ⟨_, h2, h3⟩ := nst_zero (c4 (l.drop 4)) (0, (l.drop 4).drop 4) (eE.symm.trans he)
        rcases Nat.eq_zero_or_pos (c4 (l.drop 4)) with h5 | h5
        · exact fpB1 l hs hp hw (by rw [hl, h5]) (gn_e0z l hn hm (by omega) (by omega) hz h5)
        · have hk := gn_ok l hn hm (by omega) (by omega) hz h5 (eE.symm.trans he)
          have hlen : (gnVs (0, (l.drop 4).drop 4) (c4 (l.drop 4))).length = c4 (l.drop 4) := by simp [gnVs]
          refine fpB2 l hs hp hw (gnVs (0, (l.drop 4).drop 4) (c4 (l.drop 4))) (by rw [hlen]; exact hl) (by rw [hlen]; exact hk) (fun i hi => h3 i (by rw [hlen] at hi; exact hi)) (fun i hi => ?_)
          rw [hlen] at hi
          unfold gnVs gnV
          rw [List.getElem?_map, List.getElem?_range hi]
          show some (rvl 32 gfV 0 (nst 32 gfE i (0, (l.drop 4).drop 4))) = _
          rw [rvl_all i (fun k hk => h3 k (by omega))]
      · rcases gn_split l with ⟨_, hr⟩ | ⟨h1, _⟩
        · obtain ⟨j, h5, h6, h7⟩ := nst_first (c4 (l.drop 4)) (l := (l.drop 4).drop 4) (by rw [← eE]; exact he)
          exact fpB3 l hs hp hw _ hl he hr j h5 h6 (h7.trans eE.symm)
        · exact absurd h1 he
    · exact fpC l hs hp hw
theorem formatParts_gives (s : ByteArray) (hs : s.size ≤ 9223372036854775807) : Gives Try.prog 6 [.t (.v (.string s))] (.v (.bool true)) := by
  have h := formatParts_list s.data.toList (by simpa using hs)
  rwa [show ofL s.data.toList = s from by unfold ofL; rw [Array.toArray_toList]] at h
end Go.Proofs.Ytmbllhibdbeplaa
