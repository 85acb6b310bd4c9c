/- Pruned: Gl. -/
import Derived.Test.YtokjhbmmdmeafaaGreatQGg
import Derived.Test.YtokjhbmmdmeafaaGreatQGj
set_option linter.unusedSimpArgs false
set_option linter.unusedVariables false
namespace Go.Proofs.YtokjhbmmdmeafaaGreat
open Go.Ev Go.RowKit
open Tryz
abbrev xc (n : Nat) : Prop := true = true /\ n = n
abbrev EK (t : Nat) (l : List Ch) : Prop := t = t /\ flat l = flat l
abbrev DW (v : Value) : Prop := v = v
theorem zg {a : Nat} (h : a < 256) : IntKind.u32.wrap (((a : Nat) : Int) * 2 ^ min (24 : Int).toNat IntKind.u32.bits) = ((a * 16777216 : Nat) : Int) := by
 have e : (2 : Int) ^ min (24 : Int).toNat IntKind.u32.bits = 16777216 := by decide
 rw [e, show ((a : Nat) : Int) * 16777216 = ((a * 16777216 : Nat) : Int) by omega]
 exact xw (by omega)
theorem zn {a : Nat} (h : a < 256) : IntKind.u32.wrap (((a : Nat) : Int) * 2 ^ min (16 : Int).toNat IntKind.u32.bits) = ((a * 65536 : Nat) : Int) := by
 have e : (2 : Int) ^ min (16 : Int).toNat IntKind.u32.bits = 65536 := by decide
 rw [e, show ((a : Nat) : Int) * 65536 = ((a * 65536 : Nat) : Int) by omega]
 exact xw (by omega)
theorem Cx {a : Nat} (h : a < 256) : IntKind.u32.wrap (((a : Nat) : Int) * 2 ^ min (8 : Int).toNat IntKind.u32.bits) = ((a * 256 : Nat) : Int) := by
 have e : (2 : Int) ^ min (8 : Int).toNat IntKind.u32.bits = 256 := by decide
 rw [e, show ((a : Nat) : Int) * 256 = ((a * 256 : Nat) : Int) by omega]
 exact xw (by omega)
def tn (n : Nat) : Ora := { ch := 1, hi := fun _ => n }
def co1 (l : LU0) : Nat := cn l 0 * 16777216 + cn l 1 * 65536
def co2 (l : LU0) : Nat := co1 l + cn l 2 * 256
theorem clt {l : LU0} (h : 4 <= l.length) : decide ((((ofL l).size : Nat) : Int) < 4) = false := decide_eq_false (by show ¬ ((l.length : Nat) : Int) < 4; omega)
theorem cid {l : LU0} (i : Nat) (h : 4 <= l.length) (hi : i < 4) : (0 : Int) <= (i : Int) /\ (i : Int) < (ofL l).size /\ ((ofL l)[(i : Int).toNat]?.getD 0).toNat = cn l i := QI l i (by omega)
theorem cw (l : LU0) (i : Nat) : IntKind.u32.wrap ((cn l i : Nat) : Int) = ((cn l i : Nat) : Int) := xw (by have := qU l i; omega)
theorem zb (l : LU0) : IntKind.u32.wrap (((BitVec.ofInt 32 ((cn l 0 * 16777216 : Nat) : Int) ||| BitVec.ofInt 32 ((cn l 1 * 65536 : Nat) : Int)).toNat : Nat) : Int) = ((co1 l : Nat) : Int) :=
 J1 _ _ 24 (by have := qU l 1; omega) (by omega) (by have := qU l 0; have := qU l 1; omega)
theorem zo (l : LU0) : IntKind.u32.wrap (((BitVec.ofInt 32 ((co1 l : Nat) : Int) ||| BitVec.ofInt 32 ((cn l 2 * 256 : Nat) : Int)).toNat : Nat) : Int) = ((co2 l : Nat) : Int) :=
 J1 _ _ 16 (by have := qU l 2; omega) (by unfold co1; omega) (by have := qU l 0; have := qU l 1; have := qU l 2; unfold co1; omega)
theorem zi {l : LU0} {n : Nat} (h : c4 l = n) : IntKind.u32.wrap (((BitVec.ofInt 32 ((co2 l : Nat) : Int) ||| BitVec.ofInt 32 ((cn l 3 : Nat) : Int)).toNat : Nat) : Int) = ((n : Nat) : Int) := by
 rw [← h, show c4 l = co2 l + cn l 3 from rfl]
 exact J1 _ _ 8 (by have := qU l 3; omega) (by unfold co2 co1; omega) (by have := qU l 0; have := qU l 1; have := qU l 2; have := qU l 3; unfold co2 co1; omega)
theorem cs4 {l : LU0} (h : 4 <= l.length) : (0 : Int) <= 4 /\ (4 : Int) <= (ofL l).size := ⟨by decide, by show (4 : Int) <= ((l.length : Nat) : Int); omega⟩
theorem aee (C : List Value) (x : Nat) : flat [.l C, .n 4 x] = flat [.l (C ++ limbs 4 x)] := by simp [flat, Ch.cells]
theorem acr (C : List Value) : flat [.l C, .c (.int .u64 0), .c (.int .u64 0), .c (.int .u64 0), .c (.int .u64 0)] = flat [.l (C ++ limbs 4 0)] := by simp [flat, Ch.cells, limbs]
theorem ack (x : Nat) : flat [.n 4 x] = flat [.l (limbs 4 x)] := by simp [flat, Ch.cells]
theorem VI : flat [.c (.int .u64 0), .c (.int .u64 0), .c (.int .u64 0), .c (.int .u64 0)] = flat [.l (limbs 4 0)] := by simp [flat, Ch.cells, limbs]
def gnZ (N : Nat) (sb : LU0) (e : Int) : LState := { n := 35, sl := [(4, .p 23 0), (6, .v (.slice none 0 0)), (16, vi0 (N : Int)), (17, vi0 0)], hp := [(23, .own [.c (.string (ofL sb)), ci0 e] 85)] }
def gnI (N : Nat) (C : List Value) (i : Nat) (sb : LU0) (e : Int) : LState := { n := 35, sl := [(4, .p 23 0), (6, .sx 24 i), (16, vi0 (N : Int)), (17, vi0 (i : Int))], hp := [(23, .own [.c (.string (ofL sb)), ci0 e] 85), (24, .gr [.l C] 28 4)] }
def abn (sb : LU0) (e : Int) : LState := { n := 35, sl := [(4, .p 23 0), (6, .v (.slice none 0 0))], hp := [(23, .own [.c (.string (ofL sb)), ci0 e] 85)] }
def gnE (C : List Value) (i : Nat) (sb : LU0) (e : Int) : LState := { n := 35, sl := [(4, .p 23 0), (6, .sx 24 i)], hp := [(23, .own [.c (.string (ofL sb)), ci0 e] 85), (24, .gr [.l C] 28 4)] }
def BL {sb : LU0} (hl : 32 <= sb.length) := PLift.up (show (0 : Int) <= 32 /\ (32 : Int) <= (ofL sb).size from ⟨by decide, by show (32 : Int) <= ((sb).length : Nat); omega⟩)
def RL {N : Nat} (hi : 0 < N) := PLift.up (ai (show decide ((0 : Int) < ((N : Nat) : Int)) = true from decide_eq_true (by omega)) tt0)
def Ln : LO0 := [(108, wT), (125, rO 5 0), (139, rO 5 0)]
theorem AI {c : Code} {I J : LState} {ex : Ex} {b : Prop} (o : LO0) (k : Nat) (τ : List (Nat × Nat)) (hb : b) (h : vZ prog (qa _) [v9] 3 (oL o) 0 false c k I J τ = some (ex, b) := by kernel_rfl) : Sound prog 0 false c I.aa ex J.aa := rh (P := prog) (X := qa _) (env := [v9]) ⟨uU, tt0⟩ h hb
abbrev vT (a : AA) (e : Ex) (b : AA) : Prop := Sound prog 0 false (qc f8 0) a e b
theorem adQ (N : Nat) (hi : 0 < N) (sb : LU0) (hl : 32 <= sb.length) (h : (gfE (sb.take 32)) = 0) : vT (gnZ N sb 0).aa .normal (gnI N (limbs 4 (gfV (sb.take 32))) 1 (sb.drop 32) (gfE (sb.take 32))).aa :=
 AI (Ln ++ [(157, wF)]) 108 [(24, 161)] (ai (show ((xc 0) /\ (xc 1) /\ (DW (.int .i64 (N : Int))) /\ (Value.int .i64 (IntKind.i64.wrap (0 + 1))) = (Value.int .i64 ((1 : Nat) : Int)) /\ True) /\ ((EK 85 [.c (.string (ofL (sb.drop 32))), ci0 (gfE (sb.take 32))]) /\ ((28 = 28 /\ 4 = 4) /\ flat [.n 4 (gfV (sb.take 32))] = flat [.l (limbs 4 (gfV (sb.take 32)))]) /\ True) from ⟨⟨rr0, rr0, rfl, rfl, tt0⟩, rr0, ⟨rr0, ack _⟩, tt0⟩) (ai (show ((gfE (sb.take 32)) != 0) = false from by rw [h]; rfl) (ai (BL hl).down (ai (BL hl).down
   (RL hi).down))))
theorem ad8 (N : Nat) (hi : 0 < N) (sb : LU0) (hl : 32 <= sb.length) (h : (gfE (sb.take 32)) ≠ 0) : vT (gnZ N sb 0).aa .normal (gnI N (limbs 4 (gfV (sb.take 32))) 1 (sb.drop 32) (gfE (sb.take 32))).aa :=
 AI (Ln ++ [(157, wT)]) 108 [(24, 161)] (ai (show ((xc 0) /\ (xc 1) /\ (DW (.int .i64 (N : Int))) /\ (Value.int .i64 (IntKind.i64.wrap (0 + 1))) = (Value.int .i64 ((1 : Nat) : Int)) /\ True) /\ ((EK 85 [.c (.string (ofL (sb.drop 32))), ci0 (gfE (sb.take 32))]) /\ ((28 = 28 /\ 4 = 4) /\ flat [.c (.int .u64 0), .c (.int .u64 0), .c (.int .u64 0), .c (.int .u64 0)] = flat [.l (limbs 4 (gfV (sb.take 32)))]) /\ True) from ⟨⟨rr0, rr0, rfl, rfl, tt0⟩, rr0, ⟨rr0, by rw [rI h]; exact VI⟩, tt0⟩) (ai (show ((gfE (sb.take 32)) != 0) = true from by simpa using h) (ai (BL hl).down (ai (BL hl).down
   (RL hi).down))))
theorem adR (N : Nat) (hi : 0 < N) (sb : LU0) (e : Int) (h : e ≠ 0) : vT (gnZ N sb e).aa .normal (gnI N (limbs 4 0) 1 sb e).aa :=
 AI [(108, wT), (118, wT)] 108 [(24, 122)] (ai (show ((xc 0) /\ (xc 1) /\ (DW (.int .i64 (N : Int))) /\ (Value.int .i64 (IntKind.i64.wrap (0 + 1))) = (Value.int .i64 ((1 : Nat) : Int)) /\ True) /\ ((EK 85 [.c (.string (ofL sb)), ci0 e]) /\ ((28 = 28 /\ 4 = 4) /\ flat [.c (.int .u64 0), .c (.int .u64 0), .c (.int .u64 0), .c (.int .u64 0)] = flat [.l (limbs 4 0)]) /\ True) from ⟨⟨rr0, rr0, rfl, rfl, tt0⟩, rr0, ⟨rr0, VI⟩, tt0⟩) (ai (show (e != 0) = true from by simpa using h)
   (RL hi).down))
def R1 {i : Nat} {N : Nat} (hi : i < N) (hN : N <= 1000000) {C : List Value} (hC : C.length = i * 4) := PLift.up (show qq [.l C] = i * 4 /\ i + 1 <= 9223372036854775807 /\ (i + 1) * 32 <= 140737488355328 /\ True from ⟨by show C.length + 0 = i * 4; omega, by omega, by omega, tt0⟩)
def Pj {i : Nat} {N : Nat} (hi : i < N) (hN : N <= 1000000) {C : List Value} (hC : C.length = i * 4) := PLift.up (ai (show decide (((i : Nat) : Int) < ((N : Nat) : Int)) = true from decide_eq_true (by omega)) tt0)
def SA : Ora := { ch := 0, hi := fun _ => 0, ex := 1 }
theorem ac9 (i : Nat) (N : Nat) (hi : i < N) (sb : LU0) (hN : N <= 1000000) (C : List Value) (hC : C.length = i * 4) (hl : 32 <= sb.length) (h : (gfE (sb.take 32)) = 0) : vT (gnI N C i sb 0).aa .normal (gnI N (C ++ limbs 4 (gfV (sb.take 32))) (i + 1) (sb.drop 32) (gfE (sb.take 32))).aa :=
 AI (Ln ++ [(157, wF), (161, SA)]) 108 [(24, 161)] (ai (show ((xc 0) /\ (xc (i + 1)) /\ (DW (.int .i64 (N : Int))) /\ (Value.int .i64 (IntKind.i64.wrap ((i : Int) + 1))) = (Value.int .i64 ((i + 1 : Nat) : Int)) /\ True) /\ ((EK 85 [.c (.string (ofL (sb.drop 32))), ci0 (gfE (sb.take 32))]) /\ ((28 = 28 /\ 4 = 4) /\ flat [.l C, .n 4 (gfV (sb.take 32))] = flat [.l (C ++ limbs 4 (gfV (sb.take 32)))]) /\ True) from ⟨⟨rr0, rr0, rfl, by rw [show IntKind.i64.wrap ((i : Int) + 1) = ((i + 1 : Nat) : Int) by rw [qj]; omega], tt0⟩, rr0, ⟨rr0, aee C _⟩, tt0⟩) (ai (R1 hi hN hC).down (ai (show ((gfE (sb.take 32)) != 0) = false from by rw [h]; rfl) (ai (BL hl).down (ai (BL hl).down
   (Pj hi hN hC).down)))))
theorem ad1 (i : Nat) (N : Nat) (hi : i < N) (sb : LU0) (hN : N <= 1000000) (C : List Value) (hC : C.length = i * 4) (hl : 32 <= sb.length) (h : (gfE (sb.take 32)) ≠ 0) : vT (gnI N C i sb 0).aa .normal (gnI N (C ++ limbs 4 (gfV (sb.take 32))) (i + 1) (sb.drop 32) (gfE (sb.take 32))).aa :=
 AI (Ln ++ [(157, wT), (161, SA)]) 108 [(24, 161)] (ai (show ((xc 0) /\ (xc (i + 1)) /\ (DW (.int .i64 (N : Int))) /\ (Value.int .i64 (IntKind.i64.wrap ((i : Int) + 1))) = (Value.int .i64 ((i + 1 : Nat) : Int)) /\ True) /\ ((EK 85 [.c (.string (ofL (sb.drop 32))), ci0 (gfE (sb.take 32))]) /\ ((28 = 28 /\ 4 = 4) /\ flat [.l C, .c (.int .u64 0), .c (.int .u64 0), .c (.int .u64 0), .c (.int .u64 0)] = flat [.l (C ++ limbs 4 (gfV (sb.take 32)))]) /\ True) from ⟨⟨rr0, rr0, rfl, by rw [show IntKind.i64.wrap ((i : Int) + 1) = ((i + 1 : Nat) : Int) by rw [qj]; omega], tt0⟩, rr0, ⟨rr0, by rw [rI h]; exact acr C⟩, tt0⟩) (ai (R1 hi hN hC).down (ai (show ((gfE (sb.take 32)) != 0) = true from by simpa using h) (ai (BL hl).down (ai (BL hl).down
   (Pj hi hN hC).down)))))
theorem adl (i : Nat) (N : Nat) (hi : i < N) (sb : LU0) (hN : N <= 1000000) (C : List Value) (hC : C.length = i * 4) (e : Int) (h : e ≠ 0) : vT (gnI N C i sb e).aa .normal (gnI N (C ++ limbs 4 0) (i + 1) sb e).aa :=
 AI [(108, wT), (118, wT), (122, SA)] 108 [(24, 122)] (ai (show ((xc 0) /\ (xc (i + 1)) /\ (DW (.int .i64 (N : Int))) /\ (Value.int .i64 (IntKind.i64.wrap ((i : Int) + 1))) = (Value.int .i64 ((i + 1 : Nat) : Int)) /\ True) /\ ((EK 85 [.c (.string (ofL sb)), ci0 e]) /\ ((28 = 28 /\ 4 = 4) /\ flat [.l C, .c (.int .u64 0), .c (.int .u64 0), .c (.int .u64 0), .c (.int .u64 0)] = flat [.l (C ++ limbs 4 0)]) /\ True) from ⟨⟨rr0, rr0, rfl, by rw [show IntKind.i64.wrap ((i : Int) + 1) = ((i + 1 : Nat) : Int) by rw [qj]; omega], tt0⟩, rr0, ⟨rr0, acr C⟩, tt0⟩) (ai (R1 hi hN hC).down (ai (show (e != 0) = true from by simpa using h)
   (Pj hi hN hC).down)))
theorem QK {c : Code} {I L : LState} {ex : Ex} {b : Prop} (o : LO0) (k : Nat) (sk hk : List Nat) (hb : b) (h : uG prog (qa _) [] 0 (oL o) 0 false c k I sk hk [] = some (ex, L, b) := by kernel_rfl) : Sound prog 0 false c I.aa ex L.aa := p9 (P := prog) (X := qa _) (env := []) trivial h hb
theorem Un (N : Nat) (hN : N = 0) (sb : LU0) (e : Int) : vT (gnZ N sb e).aa (.exit 0) (abn sb e).aa :=
 QK [(108, wF)] 108 [4, 6] [23] (ai (show decide ((0 : Int) < ((N : Nat) : Int)) = false from decide_eq_false (by omega)) tt0)
theorem Yy (N : Nat) (C : List Value) (sb : LU0) (e : Int) : vT (gnI N C N sb e).aa (.exit 0) (gnE C N sb e).aa :=
 QK [(108, wF)] 108 [4, 6] [23, 24] (ai (show decide (((N : Nat) : Int) < ((N : Nat) : Int)) = false from decide_eq_false (by omega)) tt0)
def gnV (st : Int × LU0) (j : Nat) : Nat := rvl 32 gfV 0 (nst 32 gfE j st)
def zr (st : Int × LU0) (i : Nat) : List Nat := (List.range i).map (gnV st)
theorem Ej (st : Int × LU0) (i : Nat) : numC 4 (zr st (i + 1)) = numC 4 (zr st i) ++ limbs 4 (gnV st i) := by
 unfold zr
 rw [List.range_succ, List.map_append]
 simp [numC]
theorem Q7 (st : Int × LU0) (i : Nat) : (numC 4 (zr st i)).length = i * 4 := by
 rw [BG]; simp [zr]
theorem gnz (N : Nat) (hi : 0 < N) (st : Int × LU0) (hl : st.1 = 0 -> 32 <= st.2.length) : vT (gnZ N st.2 st.1).aa .normal (gnI N (limbs 4 (rvl 32 gfV 0 st)) 1 (rst 32 gfE st).2 (rst 32 gfE st).1).aa := by
 obtain ⟨e, sb⟩ := st
 by_cases h : e = 0
 ·subst h
  by_cases h1 : gfE (sb.take 32) = 0
  ·exact adQ N hi sb (hl rfl) h1
  ·exact ad8 N hi sb (hl rfl) h1
 ·rw [show rst 32 gfE (e, sb) = (e, sb) from if_neg h, show rvl 32 gfV 0 (e, sb) = 0 from if_neg h]
  exact adR N hi sb e h
theorem gnr (N i : Nat) (hi : i < N) (hN : N <= 1000000) (C : List Value) (hC : C.length = i * 4) (st : Int × LU0) (hl : st.1 = 0 -> 32 <= st.2.length) : vT (gnI N C i st.2 st.1).aa .normal (gnI N (C ++ limbs 4 (rvl 32 gfV 0 st)) (i + 1) (rst 32 gfE st).2 (rst 32 gfE st).1).aa := by
 obtain ⟨e, sb⟩ := st
 by_cases h : e = 0
 ·subst h
  by_cases h1 : gfE (sb.take 32) = 0
  ·exact ac9 i N hi sb hN C hC (hl rfl) h1
  ·exact ad1 i N hi sb hN C hC (hl rfl) h1
 ·rw [show rst 32 gfE (e, sb) = (e, sb) from if_neg h, show rvl 32 gfV 0 (e, sb) = 0 from if_neg h]
  exact adl i N hi sb hN C hC e h
def gnF (N : Nat) (st : Int × LU0) : Nat -> LState
 | 0 => gnZ N st.2 st.1
 | i + 1 => gnI N (numC 4 (zr st (i + 1))) (i + 1) (nst 32 gfE (i + 1) st).2 (nst 32 gfE (i + 1) st).1
theorem XL (N : Nat) (st : Int × LU0) (h0 : st.1 = 0 -> 32 * N <= st.2.length) (i : Nat) (hi : i < N) : (nst 32 gfE i st).1 = 0 -> 32 <= (nst 32 gfE i st).2.length := by
 intro h
 obtain ⟨h1, h2, _⟩ := rq i st h
 rw [h2]
 show 32 <= (st.2.drop (32 * i)).length
 have := h0 h1
 rw [List.length_drop]
 omega
theorem XE (N : Nat) (h1 : 0 < N) (hN : N <= 1000000) (st : Int × LU0) (h0 : st.1 = 0 -> 32 * N <= st.2.length) : Sound prog 0 false (.loop (qc f8 0)) (gnZ N st.2 st.1).aa (.exit 0) (gnE (numC 4 (zr st N)) N (nst 32 gfE N st).2 (nst 32 gfE N st).1).aa := by
 have hh := qw (P := prog) (fb := 0) (rd := false) (body := (qc f8 0)) (ex := .exit 0) (E := gnE (numC 4 (zr st N)) N (nst 32 gfE N st).2 (nst 32 gfE N st).1) (m := fun y : { i : Nat // i <= N } => N - y.val) (fun y => gnF N st y.val) (by simp) (fun y => ?_) ⟨0, by omega⟩
 ·exact hh
 obtain ⟨i, hi⟩ := y
 by_cases e : i < N
 ·refine .inl ⟨⟨i + 1, e⟩, by show N - (i + 1) < N - i; omega, ?_⟩
  have hl := XL N st h0 i e
  cases i with
  | zero =>
   have h := gnz N e st hl
   show Sound _ _ _ _ (gnZ N st.2 st.1).aa _ (gnI N (numC 4 (zr st 1)) 1 _ _).aa
   rw [Ej, show numC 4 (zr st 0) = [] from rfl, List.nil_append]
   exact h
  | succ k =>
   have h := gnr N (k + 1) e hN (numC 4 (zr st (k + 1))) (Q7 st _) (nst 32 gfE (k + 1) st) hl
   show Sound _ _ _ _ _ _ (gnI N (numC 4 (zr st (k + 1 + 1))) (k + 1 + 1) _ _).aa
   rw [Ej]
   exact h
 ·have e : i = N := by omega
  subst e
  refine .inr ?_
  cases i with
  | zero => omega
  | succ k => exact Yy (k + 1) _ _ _
end Go.Proofs.YtokjhbmmdmeafaaGreat
set_option linter.unusedSimpArgs false
set_option linter.unusedVariables false
namespace Go.Proofs.YtokjhbmmdmeafaaGreat
open Go.Ev Go.RowKit
open Tryz
theorem SY {a b : Int} (h : a = b) : (a != b) = false := by rw [h]; simp
theorem Cz {body : Code} {A B : LState} {i : Nat} (h : Sound prog 0 false body A.aa (.exit i) B.aa) : Sound prog 0 false (.loop body) A.aa (.exit i) B.aa :=
 qw (m := fun _ : Unit => 0) (fun _ => A) (by simp) (fun _ => .inr h) ()
def Vx {l : LU0} (hn : 4 <= l.length) (hm : l.take 4 = mgW) (h4 : 4 <= (l.drop 4).length) (hN : (c4 (l.drop 4)) <= 64) (hx : ((l.drop 4).drop 4).length = 32 * (c4 (l.drop 4))) := PLift.up (ai (show ((((ofL ((l.drop 4).drop 4)).size : Nat) : Int) != (((c4 (l.drop 4)) * 32 : Nat) : Int)) = false from by
    have h1 : ((((l.drop 4).drop 4).length : Nat) : Int) = (((c4 (l.drop 4)) * 32 : Nat) : Int) := by omega
    exact SY h1) (ai (show IntKind.i64.wrap ((((c4 (l.drop 4)) : Nat) : Int) * 32) = (((c4 (l.drop 4)) * 32 : Nat) : Int) from by
    rw [show (((c4 (l.drop 4)) : Nat) : Int) * 32 = (((c4 (l.drop 4)) * 32 : Nat) : Int) by omega]
    exact rH (by omega)) (ai (show IntKind.i64.wrap (((c4 (l.drop 4)) : Nat) : Int) = (((c4 (l.drop 4)) : Nat) : Int) from rH (by omega)) (ai (show decide (((c4 (l.drop 4) : Nat) : Int) > 64) = false from decide_eq_false (by omega)) (ai (cs4 h4) (ai (zi (rfl : c4 (l.drop 4) = c4 (l.drop 4))) (ai (cw (l.drop 4) 3) (ai (cid 3 h4 (by decide)) (ai (zo (l.drop 4)) (ai (Cx (qU (l.drop 4) 2)) (ai (cw (l.drop 4) 2) (ai (cid 2 h4 (by decide)) (ai (zb (l.drop 4)) (ai (zn (qU (l.drop 4) 1)) (ai (cw (l.drop 4) 1) (ai (cid 1 h4 (by decide)) (ai (zg (qU (l.drop 4) 0)) (ai (cw (l.drop 4) 0) (ai (cid 0 h4 (by decide)) (ai (clt h4) (ai (show (0 : Int) <= 4 /\ (4 : Int) <= (ofL l).size from ⟨by decide, by show (4 : Int) <= ((l).length : Nat); omega⟩) (ai (show (!((ofL (l.take 4)).toList == (ofL mgW).toList)) = false from by rw [hm]; simp) (ai (show (0 : Int) <= 4 /\ (4 : Int) <= (ofL l).size from ⟨by decide, by show (4 : Int) <= ((l).length : Nat); omega⟩) (ai (show decide ((((ofL l).size : Nat) : Int) < 4) = false from decide_eq_false (by show ¬ ((l.length : Nat) : Int) < 4; omega)) tt0))))))))))))))))))))))))
abbrev KL (l : LU0) := gnZ (c4 (l.drop 4)) ((l.drop 4).drop 4) 0
def V6 (l : LU0) : LO0 := [(9, wF), (14, rO 5 0), (16, wF), (21, rO 5 0), (40, wF), (51, rO 1 (cn (l.drop 4) 0)), (52, tn (cn (l.drop 4) 0)), (53, tn (cn (l.drop 4) 0 * 16777216)), (58, rO 1 (cn (l.drop 4) 1)), (59, tn (cn (l.drop 4) 1)), (60, tn (cn (l.drop 4) 1 * 65536)), (61, tn (co1 (l.drop 4))), (66, rO 1 (cn (l.drop 4) 2)), (67, tn (cn (l.drop 4) 2)), (68, tn (cn (l.drop 4) 2 * 256)), (69, tn (co2 (l.drop 4))), (74, rO 1 (cn (l.drop 4) 3)), (75, tn (cn (l.drop 4) 3)), (76, tn (c4 (l.drop 4))), (83, rO 5 0), (89, wF), (92, { ch := 1, hi := fun _ => (c4 (l.drop 4)) }), (96, { ch := 1, hi := fun _ => (c4 (l.drop 4)) * 32 }), (104, wF)]
theorem WL (l : LU0) (hn : 4 <= l.length) (hm : l.take 4 = mgW) (h4 : 4 <= (l.drop 4).length) (hN : (c4 (l.drop 4)) <= 64) (hx : ((l.drop 4).drop 4).length = 32 * (c4 (l.drop 4))) (hz : (c4 (l.drop 4)) = 0) : Gives prog 8 [.t (.v (.string (ofL l)))] (.tp [.v (.slice none 0 0), vi0 0]) :=
 p6 (P := prog) (X := qa _) (env := [v9]) ⟨uU, tt0⟩ func8 3 (oL ((V6 l) ++ [(108, lpO { I := gnZ (c4 (l.drop 4)) ((l.drop 4).drop 4) 0, ex := .exit 0, E := abn ((l.drop 4).drop 4) 0, fr := 109 })])) (by kernel_rfl) ⟨_, rfl⟩ (ai (show some (KL l) = some (KL l) from rfl) (ai (Cz (Un (c4 (l.drop 4)) hz ((l.drop 4).drop 4) 0))
   (Vx hn hm h4 hN hx).down))
theorem Zi (l : LU0) (hn : 4 <= l.length) (hm : l.take 4 = mgW) (h4 : 4 <= (l.drop 4).length) (hN : (c4 (l.drop 4)) <= 64) (hx : ((l.drop 4).drop 4).length = 32 * (c4 (l.drop 4))) (hz : 0 < (c4 (l.drop 4))) (h : (nst 32 gfE (c4 (l.drop 4)) (0, ((l.drop 4).drop 4))).1 = 0) : xU prog 8 [.t (.v (.string (ofL l)))] (fun k => .tp [.sx k (c4 (l.drop 4)), vi0 0]) (.gr [.l (numC 4 (zr (0, ((l.drop 4).drop 4)) (c4 (l.drop 4))))] 28 4) :=
 Ao (P := prog) (X := qa _) (env := [v9]) ⟨uU, tt0⟩ func8 (fun args w => Go.Proofs.enters_of (P := prog) func8 (by kernel_rfl) rfl args w) 3 (oL ((V6 l) ++ [(108, lpO { I := gnZ (c4 (l.drop 4)) ((l.drop 4).drop 4) 0, ex := .exit 0, E := gnE (numC 4 (zr (0, ((l.drop 4).drop 4)) (c4 (l.drop 4)))) (c4 (l.drop 4)) (nst 32 gfE (c4 (l.drop 4)) (0, ((l.drop 4).drop 4))).2 (nst 32 gfE (c4 (l.drop 4)) (0, ((l.drop 4).drop 4))).1, fr := 109 }), (113, wF)])) (r0 := .tp [.sx 24 (c4 (l.drop 4)), vi0 0]) 24 (by kernel_rfl) rfl (ai (show ((nst 32 gfE (c4 (l.drop 4)) (0, ((l.drop 4).drop 4))).1 != 0) = false from by rw [h]; rfl) (ai (show some (KL l) = some (KL l) from rfl) (ai (XE (c4 (l.drop 4)) hz (by omega) (0, ((l.drop 4).drop 4)) (fun _ => by show 32 * (c4 (l.drop 4)) <= ((l.drop 4).drop 4).length; omega))
   (Vx hn hm h4 hN hx).down))) _ (fun ρ ρ' k u v h1 h2 h3 => XA ρ ρ' k u v h1 h2 h3)
end Go.Proofs.YtokjhbmmdmeafaaGreat
