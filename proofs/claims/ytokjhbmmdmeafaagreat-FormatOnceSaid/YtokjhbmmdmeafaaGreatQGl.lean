/- Pruned: Gl. -/
import Derived.Test.YtokjhbmmdmeafaaGreatQGg
import Derived.Test.YtokjhbmmdmeafaaGreatQGj
set_option linter.unusedSimpArgs false
set_option linter.unusedVariables false
namespace Go.Proofs.YtokjhbmmdmeafaaGreat
open Go.Ev Go.RowKit
open Tryz
abbrev wP (n : Nat) : Prop := true = true /\ n = n
abbrev Et (t : Nat) (l : List Ch) : Prop := t = t /\ flat l = flat l
abbrev Ed (v : Value) : Prop := v = v
theorem A5 {a : Nat} (h : a < 256) : IntKind.u32.wrap (((a : Nat) : Int) * 2 ^ min (24 : Int).toNat IntKind.u32.bits) = ((a * 16777216 : Nat) : Int) := by
 have e : (2 : Int) ^ min (24 : Int).toNat IntKind.u32.bits = 16777216 := by decide
 rw [e, show ((a : Nat) : Int) * 16777216 = ((a * 16777216 : Nat) : Int) by omega]
 exact x7 (by omega)
theorem AF {a : Nat} (h : a < 256) : IntKind.u32.wrap (((a : Nat) : Int) * 2 ^ min (16 : Int).toNat IntKind.u32.bits) = ((a * 65536 : Nat) : Int) := by
 have e : (2 : Int) ^ min (16 : Int).toNat IntKind.u32.bits = 65536 := by decide
 rw [e, show ((a : Nat) : Int) * 65536 = ((a * 65536 : Nat) : Int) by omega]
 exact x7 (by omega)
theorem DX {a : Nat} (h : a < 256) : IntKind.u32.wrap (((a : Nat) : Int) * 2 ^ min (8 : Int).toNat IntKind.u32.bits) = ((a * 256 : Nat) : Int) := by
 have e : (2 : Int) ^ min (8 : Int).toNat IntKind.u32.bits = 256 := by decide
 rw [e, show ((a : Nat) : Int) * 256 = ((a * 256 : Nat) : Int) by omega]
 exact x7 (by omega)
def tn (n : Nat) : Ora := { ch := 1, hi := fun _ => n }
def co1 (l : LU0) : Nat := cn l 0 * 16777216 + cn l 1 * 65536
def co2 (l : LU0) : Nat := co1 l + cn l 2 * 256
theorem clt {l : LU0} (h : 4 <= l.length) : decide ((((ofL l).size : Nat) : Int) < 4) = false := decide_eq_false (by show ¬ ((l.length : Nat) : Int) < 4; omega)
theorem cid {l : LU0} (i : Nat) (h : 4 <= l.length) (hi : i < 4) : (0 : Int) <= (i : Int) /\ (i : Int) < (ofL l).size /\ ((ofL l)[(i : Int).toNat]?.getD 0).toNat = cn l i := CI l i (by omega)
theorem cw (l : LU0) (i : Nat) : IntKind.u32.wrap ((cn l i : Nat) : Int) = ((cn l i : Nat) : Int) := x7 (by have := qJ l i; omega)
theorem vT (l : LU0) : IntKind.u32.wrap (((BitVec.ofInt 32 ((cn l 0 * 16777216 : Nat) : Int) ||| BitVec.ofInt 32 ((cn l 1 * 65536 : Nat) : Int)).toNat : Nat) : Int) = ((co1 l : Nat) : Int) :=
 Ld _ _ 24 (by have := qJ l 1; omega) (by omega) (by have := qJ l 0; have := qJ l 1; omega)
theorem vN (l : LU0) : IntKind.u32.wrap (((BitVec.ofInt 32 ((co1 l : Nat) : Int) ||| BitVec.ofInt 32 ((cn l 2 * 256 : Nat) : Int)).toNat : Nat) : Int) = ((co2 l : Nat) : Int) :=
 Ld _ _ 16 (by have := qJ l 2; omega) (by unfold co1; omega) (by have := qJ l 0; have := qJ l 1; have := qJ l 2; unfold co1; omega)
theorem vQ {l : LU0} {n : Nat} (h : c4 l = n) : IntKind.u32.wrap (((BitVec.ofInt 32 ((co2 l : Nat) : Int) ||| BitVec.ofInt 32 ((cn l 3 : Nat) : Int)).toNat : Nat) : Int) = ((n : Nat) : Int) := by
 rw [← h, show c4 l = co2 l + cn l 3 from rfl]
 exact Ld _ _ 8 (by have := qJ l 3; omega) (by unfold co2 co1; omega) (by have := qJ l 0; have := qJ l 1; have := qJ l 2; have := qJ l 3; unfold co2 co1; omega)
theorem cs4 {l : LU0} (h : 4 <= l.length) : (0 : Int) <= 4 /\ (4 : Int) <= (ofL l).size := ⟨by decide, by show (4 : Int) <= ((l.length : Nat) : Int); omega⟩
theorem agN (C : List Value) (x : Nat) : flat [.l C, .n 4 x] = flat [.l (C ++ limbs 4 x)] := by simp [flat, Ch.cells]
theorem aca (C : List Value) : flat [.l C, .c (.int .u64 0), .c (.int .u64 0), .c (.int .u64 0), .c (.int .u64 0)] = flat [.l (C ++ limbs 4 0)] := by simp [flat, Ch.cells, limbs]
theorem acz (x : Nat) : flat [.n 4 x] = flat [.l (limbs 4 x)] := by simp [flat, Ch.cells]
theorem Xw : flat [.c (.int .u64 0), .c (.int .u64 0), .c (.int .u64 0), .c (.int .u64 0)] = flat [.l (limbs 4 0)] := by simp [flat, Ch.cells, limbs]
def gnZ (N : Nat) (sb : LU0) (e : Int) : LState := { n := 35, sl := [(4, .p 23 0), (6, .v (.slice none 0 0)), (16, vi0 (N : Int)), (17, vi0 0)], hp := [(23, .own [.c (.string (ofL sb)), ci0 e] 85)] }
def gnI (N : Nat) (C : List Value) (i : Nat) (sb : LU0) (e : Int) : LState := { n := 35, sl := [(4, .p 23 0), (6, .sx 24 i), (16, vi0 (N : Int)), (17, vi0 (i : Int))], hp := [(23, .own [.c (.string (ofL sb)), ci0 e] 85), (24, .gr [.l C] 28 4)] }
def aaR (sb : LU0) (e : Int) : LState := { n := 35, sl := [(4, .p 23 0), (6, .v (.slice none 0 0))], hp := [(23, .own [.c (.string (ofL sb)), ci0 e] 85)] }
def gnE (C : List Value) (i : Nat) (sb : LU0) (e : Int) : LState := { n := 35, sl := [(4, .p 23 0), (6, .sx 24 i)], hp := [(23, .own [.c (.string (ofL sb)), ci0 e] 85), (24, .gr [.l C] 28 4)] }
def By {sb : LU0} (hl : 32 <= sb.length) := PLift.up (show (0 : Int) <= 32 /\ (32 : Int) <= (ofL sb).size from ⟨by decide, by show (32 : Int) <= ((sb).length : Nat); omega⟩)
def KA {N : Nat} (hi : 0 < N) := PLift.up (ai (show decide ((0 : Int) < ((N : Nat) : Int)) = true from decide_eq_true (by omega)) tt0)
theorem A4 {c : Code} {I J : LState} {ex : Ex} {b : Prop} (o : LO0) (k : Nat) (τ : List (Nat × Nat)) (hb : b) (h : vK prog (pN _) [ui] 3 (oL o) 0 false c k I J τ = some (ex, b) := by kernel_rfl) : Sound prog 0 false c I.aa ex J.aa := qT (P := prog) (X := pN _) (env := [ui]) ⟨uE, tt0⟩ h hb
abbrev vI (a : AA) (e : Ex) (b : AA) : Prop := Sound prog 0 false (pS f8 0) a e b
theorem afo (N : Nat) (hi : 0 < N) (sb : LU0) (hl : 32 <= sb.length) (h : (gfE (sb.take 32)) = 0) : vI (gnZ N sb 0).aa .normal (gnI N (limbs 4 (gfV (sb.take 32))) 1 (sb.drop 32) (gfE (sb.take 32))).aa :=
 A4 [(108, wT), (125, rO 5 0), (139, rO 5 0), (157, wF)] 108 [(24, 161)] (ai (show ((wP 0) /\ (wP 1) /\ (Ed (.int .i64 (N : Int))) /\ (Value.int .i64 (IntKind.i64.wrap (0 + 1))) = (Value.int .i64 ((1 : Nat) : Int)) /\ True) /\ ((Et 85 [.c (.string (ofL (sb.drop 32))), ci0 (gfE (sb.take 32))]) /\ ((28 = 28 /\ 4 = 4) /\ flat [.n 4 (gfV (sb.take 32))] = flat [.l (limbs 4 (gfV (sb.take 32)))]) /\ True) from ⟨⟨rr0, rr0, rfl, rfl, tt0⟩, rr0, ⟨rr0, acz _⟩, tt0⟩) (ai (show ((gfE (sb.take 32)) != 0) = false from by rw [h]; rfl) (ai (By hl).down (ai (By hl).down
   (KA hi).down))))
theorem afR (N : Nat) (hi : 0 < N) (sb : LU0) (hl : 32 <= sb.length) (h : (gfE (sb.take 32)) ≠ 0) : vI (gnZ N sb 0).aa .normal (gnI N (limbs 4 (gfV (sb.take 32))) 1 (sb.drop 32) (gfE (sb.take 32))).aa :=
 A4 [(108, wT), (125, rO 5 0), (139, rO 5 0), (157, wT)] 108 [(24, 161)] (ai (show ((wP 0) /\ (wP 1) /\ (Ed (.int .i64 (N : Int))) /\ (Value.int .i64 (IntKind.i64.wrap (0 + 1))) = (Value.int .i64 ((1 : Nat) : Int)) /\ True) /\ ((Et 85 [.c (.string (ofL (sb.drop 32))), ci0 (gfE (sb.take 32))]) /\ ((28 = 28 /\ 4 = 4) /\ flat [.c (.int .u64 0), .c (.int .u64 0), .c (.int .u64 0), .c (.int .u64 0)] = flat [.l (limbs 4 (gfV (sb.take 32)))]) /\ True) from ⟨⟨rr0, rr0, rfl, rfl, tt0⟩, rr0, ⟨rr0, by rw [rq h]; exact Xw⟩, tt0⟩) (ai (show ((gfE (sb.take 32)) != 0) = true from by simpa using h) (ai (By hl).down (ai (By hl).down
   (KA hi).down))))
theorem af1 (N : Nat) (hi : 0 < N) (sb : LU0) (e : Int) (h : e ≠ 0) : vI (gnZ N sb e).aa .normal (gnI N (limbs 4 0) 1 sb e).aa :=
 A4 [(108, wT), (118, wT)] 108 [(24, 122)] (ai (show ((wP 0) /\ (wP 1) /\ (Ed (.int .i64 (N : Int))) /\ (Value.int .i64 (IntKind.i64.wrap (0 + 1))) = (Value.int .i64 ((1 : Nat) : Int)) /\ True) /\ ((Et 85 [.c (.string (ofL sb)), ci0 e]) /\ ((28 = 28 /\ 4 = 4) /\ flat [.c (.int .u64 0), .c (.int .u64 0), .c (.int .u64 0), .c (.int .u64 0)] = flat [.l (limbs 4 0)]) /\ True) from ⟨⟨rr0, rr0, rfl, rfl, tt0⟩, rr0, ⟨rr0, Xw⟩, tt0⟩) (ai (show (e != 0) = true from by simpa using h)
   (KA hi).down))
def SX {i : Nat} {N : Nat} (hi : i < N) (hN : N <= 1000000) {C : List Value} (hC : C.length = i * 4) := PLift.up (show qd [.l C] = i * 4 /\ i + 1 <= 9223372036854775807 /\ (i + 1) * 32 <= 140737488355328 /\ True from ⟨by show C.length + 0 = i * 4; omega, by omega, by omega, tt0⟩)
def KP {i : Nat} {N : Nat} (hi : i < N) (hN : N <= 1000000) {C : List Value} (hC : C.length = i * 4) := PLift.up (ai (show decide (((i : Nat) : Int) < ((N : Nat) : Int)) = true from decide_eq_true (by omega)) tt0)
def Ky : Ora := { ch := 0, hi := fun _ => 0, ex := 1 }
theorem agp (i : Nat) (N : Nat) (hi : i < N) (sb : LU0) (hN : N <= 1000000) (C : List Value) (hC : C.length = i * 4) (hl : 32 <= sb.length) (h : (gfE (sb.take 32)) = 0) : vI (gnI N C i sb 0).aa .normal (gnI N (C ++ limbs 4 (gfV (sb.take 32))) (i + 1) (sb.drop 32) (gfE (sb.take 32))).aa :=
 A4 [(108, wT), (125, rO 5 0), (139, rO 5 0), (157, wF), (161, Ky)] 108 [(24, 161)] (ai (show ((wP 0) /\ (wP (i + 1)) /\ (Ed (.int .i64 (N : Int))) /\ (Value.int .i64 (IntKind.i64.wrap ((i : Int) + 1))) = (Value.int .i64 ((i + 1 : Nat) : Int)) /\ True) /\ ((Et 85 [.c (.string (ofL (sb.drop 32))), ci0 (gfE (sb.take 32))]) /\ ((28 = 28 /\ 4 = 4) /\ flat [.l C, .n 4 (gfV (sb.take 32))] = flat [.l (C ++ limbs 4 (gfV (sb.take 32)))]) /\ True) from ⟨⟨rr0, rr0, rfl, by rw [show IntKind.i64.wrap ((i : Int) + 1) = ((i + 1 : Nat) : Int) by rw [p6]; omega], tt0⟩, rr0, ⟨rr0, agN C _⟩, tt0⟩) (ai (SX hi hN hC).down (ai (show ((gfE (sb.take 32)) != 0) = false from by rw [h]; rfl) (ai (By hl).down (ai (By hl).down
   (KP hi hN hC).down)))))
theorem af7 (i : Nat) (N : Nat) (hi : i < N) (sb : LU0) (hN : N <= 1000000) (C : List Value) (hC : C.length = i * 4) (hl : 32 <= sb.length) (h : (gfE (sb.take 32)) ≠ 0) : vI (gnI N C i sb 0).aa .normal (gnI N (C ++ limbs 4 (gfV (sb.take 32))) (i + 1) (sb.drop 32) (gfE (sb.take 32))).aa :=
 A4 [(108, wT), (125, rO 5 0), (139, rO 5 0), (157, wT), (161, Ky)] 108 [(24, 161)] (ai (show ((wP 0) /\ (wP (i + 1)) /\ (Ed (.int .i64 (N : Int))) /\ (Value.int .i64 (IntKind.i64.wrap ((i : Int) + 1))) = (Value.int .i64 ((i + 1 : Nat) : Int)) /\ True) /\ ((Et 85 [.c (.string (ofL (sb.drop 32))), ci0 (gfE (sb.take 32))]) /\ ((28 = 28 /\ 4 = 4) /\ flat [.l C, .c (.int .u64 0), .c (.int .u64 0), .c (.int .u64 0), .c (.int .u64 0)] = flat [.l (C ++ limbs 4 (gfV (sb.take 32)))]) /\ True) from ⟨⟨rr0, rr0, rfl, by rw [show IntKind.i64.wrap ((i : Int) + 1) = ((i + 1 : Nat) : Int) by rw [p6]; omega], tt0⟩, rr0, ⟨rr0, by rw [rq h]; exact aca C⟩, tt0⟩) (ai (SX hi hN hC).down (ai (show ((gfE (sb.take 32)) != 0) = true from by simpa using h) (ai (By hl).down (ai (By hl).down
   (KP hi hN hC).down)))))
theorem afW (i : Nat) (N : Nat) (hi : i < N) (sb : LU0) (hN : N <= 1000000) (C : List Value) (hC : C.length = i * 4) (e : Int) (h : e ≠ 0) : vI (gnI N C i sb e).aa .normal (gnI N (C ++ limbs 4 0) (i + 1) sb e).aa :=
 A4 [(108, wT), (118, wT), (122, Ky)] 108 [(24, 122)] (ai (show ((wP 0) /\ (wP (i + 1)) /\ (Ed (.int .i64 (N : Int))) /\ (Value.int .i64 (IntKind.i64.wrap ((i : Int) + 1))) = (Value.int .i64 ((i + 1 : Nat) : Int)) /\ True) /\ ((Et 85 [.c (.string (ofL sb)), ci0 e]) /\ ((28 = 28 /\ 4 = 4) /\ flat [.l C, .c (.int .u64 0), .c (.int .u64 0), .c (.int .u64 0), .c (.int .u64 0)] = flat [.l (C ++ limbs 4 0)]) /\ True) from ⟨⟨rr0, rr0, rfl, by rw [show IntKind.i64.wrap ((i : Int) + 1) = ((i + 1 : Nat) : Int) by rw [p6]; omega], tt0⟩, rr0, ⟨rr0, aca C⟩, tt0⟩) (ai (SX hi hN hC).down (ai (show (e != 0) = true from by simpa using h)
   (KP hi hN hC).down)))
theorem TB {c : Code} {I L : LState} {ex : Ex} {b : Prop} (o : LO0) (k : Nat) (sk hk : List Nat) (hb : b) (h : uW prog (pN _) [] 0 (oL o) 0 false c k I sk hk [] = some (ex, L, b) := by kernel_rfl) : Sound prog 0 false c I.aa ex L.aa := pR (P := prog) (X := pN _) (env := []) trivial h hb
theorem LH (N : Nat) (hN : N = 0) (sb : LU0) (e : Int) : vI (gnZ N sb e).aa (.exit 0) (aaR sb e).aa :=
 TB [(108, wF)] 108 [4, 6] [23] (ai (show decide ((0 : Int) < ((N : Nat) : Int)) = false from decide_eq_false (by omega)) tt0)
theorem aar (N : Nat) (C : List Value) (sb : LU0) (e : Int) : vI (gnI N C N sb e).aa (.exit 0) (gnE C N sb e).aa :=
 TB [(108, wF)] 108 [4, 6] [23, 24] (ai (show decide (((N : Nat) : Int) < ((N : Nat) : Int)) = false from decide_eq_false (by omega)) tt0)
def gnV (st : Int × LU0) (j : Nat) : Nat := rvl 32 gfV 0 (nst 32 gfE j st)
def gnVs (st : Int × LU0) (i : Nat) : List Nat := (List.range i).map (gnV st)
theorem ES (st : Int × LU0) (i : Nat) : numC 4 (gnVs st (i + 1)) = numC 4 (gnVs st i) ++ limbs 4 (gnV st i) := by
 unfold gnVs
 rw [List.range_succ, List.map_append]
 simp [numC]
theorem Pf (st : Int × LU0) (i : Nat) : (numC 4 (gnVs st i)).length = i * 4 := by
 rw [BA]; simp [gnVs]
theorem gnz (N : Nat) (hi : 0 < N) (st : Int × LU0) (hl : st.1 = 0 -> 32 <= st.2.length) : vI (gnZ N st.2 st.1).aa .normal (gnI N (limbs 4 (rvl 32 gfV 0 st)) 1 (rst 32 gfE st).2 (rst 32 gfE st).1).aa := by
 obtain ⟨e, sb⟩ := st
 by_cases h : e = 0
 ·subst h
  by_cases h1 : gfE (sb.take 32) = 0
  ·exact afo N hi sb (hl rfl) h1
  ·exact afR N hi sb (hl rfl) h1
 ·rw [show rst 32 gfE (e, sb) = (e, sb) from if_neg h, show rvl 32 gfV 0 (e, sb) = 0 from if_neg h]
  exact af1 N hi sb e h
theorem gnr (N i : Nat) (hi : i < N) (hN : N <= 1000000) (C : List Value) (hC : C.length = i * 4) (st : Int × LU0) (hl : st.1 = 0 -> 32 <= st.2.length) : vI (gnI N C i st.2 st.1).aa .normal (gnI N (C ++ limbs 4 (rvl 32 gfV 0 st)) (i + 1) (rst 32 gfE st).2 (rst 32 gfE st).1).aa := by
 obtain ⟨e, sb⟩ := st
 by_cases h : e = 0
 ·subst h
  by_cases h1 : gfE (sb.take 32) = 0
  ·exact agp i N hi sb hN C hC (hl rfl) h1
  ·exact af7 i N hi sb hN C hC (hl rfl) h1
 ·rw [show rst 32 gfE (e, sb) = (e, sb) from if_neg h, show rvl 32 gfV 0 (e, sb) = 0 from if_neg h]
  exact afW i N hi sb hN C hC e h
def gnF (N : Nat) (st : Int × LU0) : Nat -> LState
 | 0 => gnZ N st.2 st.1
 | i + 1 => gnI N (numC 4 (gnVs st (i + 1))) (i + 1) (nst 32 gfE (i + 1) st).2 (nst 32 gfE (i + 1) st).1
theorem YK (N : Nat) (st : Int × LU0) (h0 : st.1 = 0 -> 32 * N <= st.2.length) (i : Nat) (hi : i < N) : (nst 32 gfE i st).1 = 0 -> 32 <= (nst 32 gfE i st).2.length := by
 intro h
 obtain ⟨h1, h2, _⟩ := qh i st h
 rw [h2]
 show 32 <= (st.2.drop (32 * i)).length
 have := h0 h1
 rw [List.length_drop]
 omega
theorem JU (N : Nat) (h1 : 0 < N) (hN : N <= 1000000) (st : Int × LU0) (h0 : st.1 = 0 -> 32 * N <= st.2.length) : Sound prog 0 false (.loop (pS f8 0)) (gnZ N st.2 st.1).aa (.exit 0) (gnE (numC 4 (gnVs st N)) N (nst 32 gfE N st).2 (nst 32 gfE N st).1).aa := by
 have hh := qk (P := prog) (fb := 0) (rd := false) (body := (pS f8 0)) (ex := .exit 0) (E := gnE (numC 4 (gnVs st N)) N (nst 32 gfE N st).2 (nst 32 gfE N st).1) (m := fun y : { i : Nat // i <= N } => N - y.val) (fun y => gnF N st y.val) (by simp) (fun y => ?_) ⟨0, by omega⟩
 ·exact hh
 obtain ⟨i, hi⟩ := y
 by_cases e : i < N
 ·refine .inl ⟨⟨i + 1, e⟩, by show N - (i + 1) < N - i; omega, ?_⟩
  have hl := YK N st h0 i e
  cases i with
  | zero =>
   have h := gnz N e st hl
   show Sound _ _ _ _ (gnZ N st.2 st.1).aa _ (gnI N (numC 4 (gnVs st 1)) 1 _ _).aa
   rw [ES, show numC 4 (gnVs st 0) = [] from rfl, List.nil_append]
   exact h
  | succ k =>
   have h := gnr N (k + 1) e hN (numC 4 (gnVs st (k + 1))) (Pf st _) (nst 32 gfE (k + 1) st) hl
   show Sound _ _ _ _ _ _ (gnI N (numC 4 (gnVs st (k + 1 + 1))) (k + 1 + 1) _ _).aa
   rw [ES]
   exact h
 ·have e : i = N := by omega
  subst e
  refine .inr ?_
  cases i with
  | zero => omega
  | succ k => exact aar (k + 1) _ _ _
end Go.Proofs.YtokjhbmmdmeafaaGreat
set_option linter.unusedSimpArgs false
set_option linter.unusedVariables false
namespace Go.Proofs.YtokjhbmmdmeafaaGreat
open Go.Ev Go.RowKit
open Tryz
theorem z8 {a b : Int} (h : a = b) : (a != b) = false := by rw [h]; simp
theorem uc {body : Code} {A B : LState} {i : Nat} (h : Sound prog 0 false body A.aa (.exit i) B.aa) : Sound prog 0 false (.loop body) A.aa (.exit i) B.aa :=
 qk (m := fun _ : Unit => 0) (fun _ => A) (by simp) (fun _ => .inr h) ()
abbrev uZ (l : LU0) : List XV := [.t (.v (.string (ofL l)))]
theorem vC {a : List XV} {r : AV} {b : Prop} (o : LO0) (hb : b) (h : fnA prog (pN _) [ui] 3 (oL o) f8 a = some (r, b) := by kernel_rfl) (hv : ∃ v, r.val? = some v := by exact ⟨_, rfl⟩) : Gives prog 8 a r := pL (P := prog) (X := pN _) (env := [ui]) ⟨uE, tt0⟩ func8 3 (oL o) h hv hb
theorem afO (l : LU0) (hn : l.length < 4) : Gives prog 8 (uZ l) (.tp [.v (.slice none 0 0), vi0 80]) :=
 vC [(9, wT)] (ai (show decide ((((ofL l).size : Nat) : Int) < 4) = true from decide_eq_true (by show  ((l.length : Nat) : Int) < 4; omega)) tt0)
def Pi {l : LU0} (hn : 4 <= l.length) := PLift.up (show (0 : Int) <= 4 /\ (4 : Int) <= (ofL l).size from ⟨by decide, by show (4 : Int) <= ((l).length : Nat); omega⟩)
def WZ {l : LU0} (hn : 4 <= l.length) := PLift.up (ai (Pi hn).down (ai (show decide ((((ofL l).size : Nat) : Int) < 4) = false from decide_eq_false (by show ¬ ((l.length : Nat) : Int) < 4; omega)) tt0))
theorem afC (l : LU0) (hn : 4 <= l.length) (hm : l.take 4 ≠ mgW) : Gives prog 8 (uZ l) (.tp [.v (.slice none 0 0), vi0 80]) :=
 vC [(9, wF), (14, rO 5 0), (16, wT)] (ai (show (!((ofL (l.take 4)).toList == (ofL mgW).toList)) = true from TT hm)
   (WZ hn).down)
def Rj {l : LU0} (hn : 4 <= l.length) (hm : l.take 4 = mgW) := PLift.up (ai (Pi hn).down (ai (show (!((ofL (l.take 4)).toList == (ofL mgW).toList)) = false from by rw [hm]; simp)
   (WZ hn).down))
abbrev Jn : AV := .tp [.v (.slice none 0 0), vi0 3]
theorem acW (l : LU0) (hn : 4 <= l.length) (hm : l.take 4 = mgW) (h4 : (l.drop 4).length < 4) (hx : (l.drop 4).length = 0) : Gives prog 8 (uZ l) Jn :=
 vC [(9, wF), (14, rO 5 0), (16, wF), (21, rO 5 0), (40, wT), (64, wF)] (ai (show ((((ofL (l.drop 4)).size : Nat) : Int) != 0) = false from by
    have h1 : (((l.drop 4).length : Nat) : Int) = 0 := by omega
    exact z8 h1) (ai (show decide ((((ofL (l.drop 4)).size : Nat) : Int) < 4) = true from decide_eq_true (by show (((l.drop 4).length : Nat) : Int) < 4; omega))
   (Rj hn hm).down))
theorem adK (l : LU0) (hn : 4 <= l.length) (hm : l.take 4 = mgW) (h4 : (l.drop 4).length < 4) (hx : (l.drop 4).length ≠ 0) : Gives prog 8 (uZ l) Jn :=
 vC [(9, wF), (14, rO 5 0), (16, wF), (21, rO 5 0), (40, wT), (64, wT)] (ai (show ((((ofL (l.drop 4)).size : Nat) : Int) != 0) = true from by
    have h1 : (((l.drop 4).length : Nat) : Int) ≠ 0 := by omega
    exact bne_iff_ne.2 h1) (ai (show decide ((((ofL (l.drop 4)).size : Nat) : Int) < 4) = true from decide_eq_true (by show (((l.drop 4).length : Nat) : Int) < 4; omega))
   (Rj hn hm).down))
def Xu {l : LU0} (hn : 4 <= l.length) (hm : l.take 4 = mgW) (h4 : 4 <= (l.drop 4).length) := PLift.up (ai (cs4 h4) (ai (vQ (rfl : c4 (l.drop 4) = c4 (l.drop 4))) (ai (cw (l.drop 4) 3) (ai (cid 3 h4 (by decide)) (ai (vN (l.drop 4)) (ai (DX (qJ (l.drop 4) 2)) (ai (cw (l.drop 4) 2) (ai (cid 2 h4 (by decide)) (ai (vT (l.drop 4)) (ai (AF (qJ (l.drop 4) 1)) (ai (cw (l.drop 4) 1) (ai (cid 1 h4 (by decide)) (ai (A5 (qJ (l.drop 4) 0)) (ai (cw (l.drop 4) 0) (ai (cid 0 h4 (by decide)) (ai (clt h4)
   (Rj hn hm).down))))))))))))))))
def XA {l : LU0} (hn : 4 <= l.length) (hm : l.take 4 = mgW) (h4 : 4 <= (l.drop 4).length) (hN : 64 < (c4 (l.drop 4))) := PLift.up (Xu hn hm h4).down
def Ya (l : LU0) : Nat × Ora := (53, tn (cn (l.drop 4) 0 * 16777216))
def aau (l : LU0) : Nat × Ora := (60, tn (cn (l.drop 4) 1 * 65536))
def Z6 (l : LU0) : Nat × Ora := (68, tn (cn (l.drop 4) 2 * 256))
def XU (l : LU0) : Nat × Ora := (74, rO 1 (cn (l.drop 4) 3))
def YX (l : LU0) : Nat × Ora := (66, rO 1 (cn (l.drop 4) 2))
def aaD (l : LU0) : Nat × Ora := (58, rO 1 (cn (l.drop 4) 1))
def ZA (l : LU0) : Nat × Ora := (51, rO 1 (cn (l.drop 4) 0))
def aaV (l : LU0) : Nat × Ora := (75, tn (cn (l.drop 4) 3))
def Yh (l : LU0) : Nat × Ora := (67, tn (cn (l.drop 4) 2))
def YZ (l : LU0) : Nat × Ora := (59, tn (cn (l.drop 4) 1))
def Y8 (l : LU0) : Nat × Ora := (52, tn (cn (l.drop 4) 0))
def aat (l : LU0) : Nat × Ora := (69, tn (co2 (l.drop 4)))
def aae (l : LU0) : Nat × Ora := (61, tn (co1 (l.drop 4)))
def aaA (l : LU0) : Nat × Ora := (76, tn (c4 (l.drop 4)))
def zg (l : LU0) : LO0 := [(9, wF), (14, rO 5 0), (16, wF), (21, rO 5 0), (40, wF), (ZA l), (Y8 l), (Ya l), (aaD l), (YZ l), (aau l), (aae l), (YX l), (Yh l), (Z6 l), (aat l), (XU l), (aaV l), (aaA l), (83, rO 5 0)]
theorem adY (l : LU0) (hn : 4 <= l.length) (hm : l.take 4 = mgW) (h4 : 4 <= (l.drop 4).length) (hN : 64 < (c4 (l.drop 4))) (hx : ((l.drop 4).drop 4).length = 0) : Gives prog 8 (uZ l) (.tp [.v (.slice none 0 0), vi0 2]) :=
 vC ((zg l) ++ [(89, wT), (107, wF)]) (ai (show ((((ofL ((l.drop 4).drop 4)).size : Nat) : Int) != 0) = false from by
    have h1 : ((((l.drop 4).drop 4).length : Nat) : Int) = 0 := by omega
    exact z8 h1) (ai (show decide (((c4 (l.drop 4) : Nat) : Int) > 64) = true from decide_eq_true (by omega))
   (XA hn hm h4 hN).down))
theorem aea (l : LU0) (hn : 4 <= l.length) (hm : l.take 4 = mgW) (h4 : 4 <= (l.drop 4).length) (hN : 64 < (c4 (l.drop 4))) (hx : ((l.drop 4).drop 4).length ≠ 0) : Gives prog 8 (uZ l) (.tp [.v (.slice none 0 0), vi0 2]) :=
 vC ((zg l) ++ [(89, wT), (107, wT)]) (ai (show ((((ofL ((l.drop 4).drop 4)).size : Nat) : Int) != 0) = true from by
    have h1 : ((((l.drop 4).drop 4).length : Nat) : Int) ≠ 0 := by omega
    exact bne_iff_ne.2 h1) (ai (show decide (((c4 (l.drop 4) : Nat) : Int) > 64) = true from decide_eq_true (by omega))
   (XA hn hm h4 hN).down))
def XK {l : LU0} (hn : 4 <= l.length) (hm : l.take 4 = mgW) (h4 : 4 <= (l.drop 4).length) (hN : (c4 (l.drop 4)) <= 64) := PLift.up (ai (show IntKind.i64.wrap ((((c4 (l.drop 4)) : Nat) : Int) * 32) = (((c4 (l.drop 4)) * 32 : Nat) : Int) from by
    rw [show (((c4 (l.drop 4)) : Nat) : Int) * 32 = (((c4 (l.drop 4)) * 32 : Nat) : Int) by omega]
    exact qc (by omega)) (ai (show IntKind.i64.wrap (((c4 (l.drop 4)) : Nat) : Int) = (((c4 (l.drop 4)) : Nat) : Int) from qc (by omega)) (ai (show decide (((c4 (l.drop 4) : Nat) : Int) > 64) = false from decide_eq_false (by omega))
   (Xu hn hm h4).down)))
def Qg {l : LU0} (hn : 4 <= l.length) (hm : l.take 4 = mgW) (h4 : 4 <= (l.drop 4).length) (hN : (c4 (l.drop 4)) <= 64) (hx : ((l.drop 4).drop 4).length = 32 * (c4 (l.drop 4))) := PLift.up (ai (show ((((ofL ((l.drop 4).drop 4)).size : Nat) : Int) != (((c4 (l.drop 4)) * 32 : Nat) : Int)) = false from by
    have h1 : ((((l.drop 4).drop 4).length : Nat) : Int) = (((c4 (l.drop 4)) * 32 : Nat) : Int) := by omega
    exact z8 h1)
   (XK hn hm h4 hN).down)
def Le (l : LU0) := PLift.up (show some (gnZ (c4 (l.drop 4)) ((l.drop 4).drop 4) 0) = some (gnZ (c4 (l.drop 4)) ((l.drop 4).drop 4) 0) from rfl)
def CE (l : LU0) : Nat × Ora := (96, { ch := 1, hi := fun _ => (c4 (l.drop 4)) * 32 })
def CQ (l : LU0) : Nat × Ora := (92, { ch := 1, hi := fun _ => (c4 (l.drop 4)) })
theorem Y6 (l : LU0) (hn : 4 <= l.length) (hm : l.take 4 = mgW) (h4 : 4 <= (l.drop 4).length) (hN : (c4 (l.drop 4)) <= 64) (hx : ((l.drop 4).drop 4).length = 32 * (c4 (l.drop 4))) (hz : (c4 (l.drop 4)) = 0) : Gives prog 8 (uZ l) (.tp [.v (.slice none 0 0), vi0 0]) :=
 vC ((zg l) ++ [(89, wF), (CQ l), (CE l), (104, wF), (108, lpO { I := gnZ (c4 (l.drop 4)) ((l.drop 4).drop 4) 0, ex := .exit 0, E := aaR ((l.drop 4).drop 4) 0, fr := 109 })]) (ai (Le l).down (ai (uc (LH (c4 (l.drop 4)) hz ((l.drop 4).drop 4) 0))
   (Qg hn hm h4 hN hx).down))
def Xa (l : LU0) : Nat × Ora := (108, lpO { I := gnZ (c4 (l.drop 4)) ((l.drop 4).drop 4) 0, ex := .exit 0, E := gnE (numC 4 (gnVs (0, ((l.drop 4).drop 4)) (c4 (l.drop 4)))) (c4 (l.drop 4)) (nst 32 gfE (c4 (l.drop 4)) (0, ((l.drop 4).drop 4))).2 (nst 32 gfE (c4 (l.drop 4)) (0, ((l.drop 4).drop 4))).1, fr := 109 })
theorem aaF (l : LU0) (hn : 4 <= l.length) (hm : l.take 4 = mgW) (h4 : 4 <= (l.drop 4).length) (hN : (c4 (l.drop 4)) <= 64) (hx : ((l.drop 4).drop 4).length = 32 * (c4 (l.drop 4))) (hz : 0 < (c4 (l.drop 4))) (h : (nst 32 gfE (c4 (l.drop 4)) (0, ((l.drop 4).drop 4))).1 ≠ 0) : Gives prog 8 (uZ l) (.tp [.v (.slice none 0 0), vi0 (nst 32 gfE (c4 (l.drop 4)) (0, ((l.drop 4).drop 4))).1]) :=
 vC ((zg l) ++ [(89, wF), (CQ l), (CE l), (104, wF), (Xa l), (113, wT)]) (ai (show ((nst 32 gfE (c4 (l.drop 4)) (0, ((l.drop 4).drop 4))).1 != 0) = true from by simpa using h) (ai (Le l).down (ai (JU (c4 (l.drop 4)) hz (by omega) (0, ((l.drop 4).drop 4)) (fun _ => by show 32 * (c4 (l.drop 4)) <= ((l.drop 4).drop 4).length; omega))
   (Qg hn hm h4 hN hx).down)))
theorem acX (l : LU0) (hn : 4 <= l.length) (hm : l.take 4 = mgW) (h4 : 4 <= (l.drop 4).length) (hN : (c4 (l.drop 4)) <= 64) (hx : ((l.drop 4).drop 4).length = 32 * (c4 (l.drop 4))) (hz : 0 < (c4 (l.drop 4))) (h : (nst 32 gfE (c4 (l.drop 4)) (0, ((l.drop 4).drop 4))).1 = 0) : ye prog 8 (uZ l) (fun k => .tp [.sx k (c4 (l.drop 4)), vi0 0]) (.gr [.l (numC 4 (gnVs (0, ((l.drop 4).drop 4)) (c4 (l.drop 4))))] 28 4) :=
 Bi (P := prog) (X := pN _) (env := [ui]) ⟨uE, tt0⟩ func8 (fun args w => Go.Proofs.enters_of (P := prog) func8 (by kernel_rfl) rfl args w) 3 (oL ((zg l) ++ [(89, wF), (CQ l), (CE l), (104, wF), (Xa l), (113, wF)])) (r0 := .tp [.sx 24 (c4 (l.drop 4)), vi0 0]) 24 (by kernel_rfl) rfl (ai (show ((nst 32 gfE (c4 (l.drop 4)) (0, ((l.drop 4).drop 4))).1 != 0) = false from by rw [h]; rfl) (ai (Le l).down (ai (JU (c4 (l.drop 4)) hz (by omega) (0, ((l.drop 4).drop 4)) (fun _ => by show 32 * (c4 (l.drop 4)) <= ((l.drop 4).drop 4).length; omega))
   (Qg hn hm h4 hN hx).down))) _ (fun ρ ρ' k u v h1 h2 h3 => YV ρ ρ' k u v h1 h2 h3)
def Xj {l : LU0} (hn : 4 <= l.length) (hm : l.take 4 = mgW) (h4 : 4 <= (l.drop 4).length) (hN : (c4 (l.drop 4)) <= 64) (hx : ((l.drop 4).drop 4).length ≠ 32 * (c4 (l.drop 4))) := PLift.up (ai (show ((((ofL ((l.drop 4).drop 4)).size : Nat) : Int) != (((c4 (l.drop 4)) * 32 : Nat) : Int)) = true from by
    have h1 : ((((l.drop 4).drop 4).length : Nat) : Int) ≠ (((c4 (l.drop 4)) * 32 : Nat) : Int) := by omega
    exact bne_iff_ne.2 h1)
   (XK hn hm h4 hN).down)
abbrev Fo (l : LU0) := gnZ (c4 (l.drop 4)) ((l.drop 4).drop 4) 3
theorem Ye (l : LU0) (hn : 4 <= l.length) (hm : l.take 4 = mgW) (h4 : 4 <= (l.drop 4).length) (hN : (c4 (l.drop 4)) <= 64) (hx : ((l.drop 4).drop 4).length ≠ 32 * (c4 (l.drop 4))) (hz : (c4 (l.drop 4)) = 0) : Gives prog 8 (uZ l) Jn :=
 vC ((zg l) ++ [(89, wF), (CQ l), (CE l), (104, wT), (120, lpO { I := gnZ (c4 (l.drop 4)) ((l.drop 4).drop 4) 3, ex := .exit 0, E := aaR ((l.drop 4).drop 4) 3, fr := 121 })]) (ai (show some (Fo l) = some (Fo l) from rfl) (ai (uc (LH (c4 (l.drop 4)) hz ((l.drop 4).drop 4) 3))
   (Xj hn hm h4 hN hx).down))
theorem Zq (l : LU0) (hn : 4 <= l.length) (hm : l.take 4 = mgW) (h4 : 4 <= (l.drop 4).length) (hN : (c4 (l.drop 4)) <= 64) (hx : ((l.drop 4).drop 4).length ≠ 32 * (c4 (l.drop 4))) (hz : 0 < (c4 (l.drop 4))) : Gives prog 8 (uZ l) (.tp [.v (.slice none 0 0), vi0 (nst 32 gfE (c4 (l.drop 4)) (3, ((l.drop 4).drop 4))).1]) :=
 vC ((zg l) ++ [(89, wF), (CQ l), (CE l), (104, wT), (120, lpO { I := gnZ (c4 (l.drop 4)) ((l.drop 4).drop 4) 3, ex := .exit 0, E := gnE (numC 4 (gnVs (3, ((l.drop 4).drop 4)) (c4 (l.drop 4)))) (c4 (l.drop 4)) (nst 32 gfE (c4 (l.drop 4)) (3, ((l.drop 4).drop 4))).2 (nst 32 gfE (c4 (l.drop 4)) (3, ((l.drop 4).drop 4))).1, fr := 121 }), (125, wT)]) (ai (show ((nst 32 gfE (c4 (l.drop 4)) (3, ((l.drop 4).drop 4))).1 != 0) = true from by rw [tW (show ((3, ((l.drop 4).drop 4)) : Int × LU0).1 ≠ 0 from (by show (3 : Int) ≠ 0; decide))]; rfl) (ai (show some (Fo l) = some (Fo l) from rfl) (ai (JU (c4 (l.drop 4)) hz (by omega) (3, ((l.drop 4).drop 4)) (fun h => by exact absurd (show (3 : Int) = 0 from h) (by decide)))
   (Xj hn hm h4 hN hx).down)))
def BV (l : LU0) : Int := if l.take 4 = mgW then (if (l.drop 4).length < 4 then 3 else if 64 < c4 (l.drop 4) then 2 else if ((l.drop 4).drop 4).length = 32 * c4 (l.drop 4) then (nst 32 gfE (c4 (l.drop 4)) (0, (l.drop 4).drop 4)).1 else 3) else 80
theorem Iz (l : LU0) : (BV l ≠ 0 /\ Gives prog 8 [.t (.v (.string (ofL l)))] (.tp [.v (.slice none 0 0), vi0 (BV l)])) ∨ (BV l = 0 /\ l.take 4 = mgW /\ 4 <= (l.drop 4).length /\ c4 (l.drop 4) <= 64 /\ ((l.drop 4).drop 4).length = 32 * c4 (l.drop 4) /\ (nst 32 gfE (c4 (l.drop 4)) (0, (l.drop 4).drop 4)).1 = 0) := by
 by_cases hm : l.take 4 = mgW
 ·have hn : 4 <= l.length := by
   have := congrArg List.length hm
   rw [List.length_take] at this
   have h5 : mgW.length = 4 := rfl
   omega
  by_cases h4 : (l.drop 4).length < 4
  ·have e : BV l = 3 := (if_pos hm).trans (if_pos h4)
   rw [e]
   refine .inl ⟨by decide, ?_⟩
   by_cases hx : (l.drop 4).length = 0
   ·exact acW l hn hm h4 hx
   ·exact adK l hn hm h4 hx
  ·have e0 : BV l = _ := (if_pos hm).trans (if_neg h4)
   have h4 : 4 <= (l.drop 4).length := by omega
   by_cases hN : 64 < c4 (l.drop 4)
   ·rw [e0.trans (if_pos hN)]
    refine .inl ⟨by decide, ?_⟩
    by_cases hx : ((l.drop 4).drop 4).length = 0
    ·exact adY l hn hm h4 hN hx
    ·exact aea l hn hm h4 hN hx
   ·have e1 := e0.trans (if_neg hN)
    have hN : c4 (l.drop 4) <= 64 := by omega
    by_cases hx : ((l.drop 4).drop 4).length = 32 * c4 (l.drop 4)
    ·have e2 := e1.trans (if_pos hx)
     by_cases h : (nst 32 gfE (c4 (l.drop 4)) (0, (l.drop 4).drop 4)).1 = 0
     ·exact .inr ⟨e2.trans h, hm, h4, hN, hx, h⟩
     ·rw [e2]
      refine .inl ⟨h, ?_⟩
      rcases Nat.eq_zero_or_pos (c4 (l.drop 4)) with hz | hz
      ·exact absurd (by rw [hz]; rfl) h
      ·exact aaF l hn hm h4 hN hx hz h
    ·rw [e1.trans (if_neg hx)]
     refine .inl ⟨by decide, ?_⟩
     rcases Nat.eq_zero_or_pos (c4 (l.drop 4)) with hz | hz
     ·exact Ye l hn hm h4 hN hx hz
     ·have e3 := Zq l hn hm h4 hN hx hz
      rw [tW (show ((3, (l.drop 4).drop 4) : Int × LU0).1 ≠ 0 from (by show (3 : Int) ≠ 0; decide))] at e3
      exact e3
 ·have e : BV l = 80 := if_neg hm
  rw [e]
  refine .inl ⟨by decide, ?_⟩
  by_cases hn : l.length < 4
  ·exact afO l hn
  ·exact afC l (by omega) hm
end Go.Proofs.YtokjhbmmdmeafaaGreat
