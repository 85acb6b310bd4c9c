/- Pruned: Gl. -/
import Derived.Test.YtokjhbmmdmeafaaGreatQGg
import Derived.Test.YtokjhbmmdmeafaaGreatQGj
set_option linter.unusedSimpArgs false
set_option linter.unusedVariables false
namespace Go.Proofs.YtokjhbmmdmeafaaGreat
open Go.Ev Go.RowKit
open Tryz
abbrev vO (n : Nat) : Prop := true = true /\ n = n
abbrev B1 (t : Nat) (l : List Ch) : Prop := t = t /\ flat l = flat l
abbrev Cb (v : Value) : Prop := v = v
theorem zs {a : Nat} (h : a < 256) : IntKind.u32.wrap (((a : Nat) : Int) * 2 ^ min (24 : Int).toNat IntKind.u32.bits) = ((a * 16777216 : Nat) : Int) := by
 have e : (2 : Int) ^ min (24 : Int).toNat IntKind.u32.bits = 16777216 := by decide
 rw [e, show ((a : Nat) : Int) * 16777216 = ((a * 16777216 : Nat) : Int) by omega]
 exact wM (by omega)
theorem zh {a : Nat} (h : a < 256) : IntKind.u32.wrap (((a : Nat) : Int) * 2 ^ min (16 : Int).toNat IntKind.u32.bits) = ((a * 65536 : Nat) : Int) := by
 have e : (2 : Int) ^ min (16 : Int).toNat IntKind.u32.bits = 65536 := by decide
 rw [e, show ((a : Nat) : Int) * 65536 = ((a * 65536 : Nat) : Int) by omega]
 exact wM (by omega)
theorem Cz {a : Nat} (h : a < 256) : IntKind.u32.wrap (((a : Nat) : Int) * 2 ^ min (8 : Int).toNat IntKind.u32.bits) = ((a * 256 : Nat) : Int) := by
 have e : (2 : Int) ^ min (8 : Int).toNat IntKind.u32.bits = 256 := by decide
 rw [e, show ((a : Nat) : Int) * 256 = ((a * 256 : Nat) : Int) by omega]
 exact wM (by omega)
def tn (n : Nat) : Ora := { ch := 1, hi := fun _ => n }
def co1 (l : LU0) : Nat := cn l 0 * 16777216 + cn l 1 * 65536
def co2 (l : LU0) : Nat := co1 l + cn l 2 * 256
theorem clt {l : LU0} (h : 4 <= l.length) : decide ((((ofL l).size : Nat) : Int) < 4) = false := decide_eq_false (by show ¬ ((l.length : Nat) : Int) < 4; omega)
theorem cid {l : LU0} (i : Nat) (h : 4 <= l.length) (hi : i < 4) : (0 : Int) <= (i : Int) /\ (i : Int) < (ofL l).size /\ ((ofL l)[(i : Int).toNat]?.getD 0).toNat = cn l i := tR l i (by omega)
theorem cw (l : LU0) (i : Nat) : IntKind.u32.wrap ((cn l i : Nat) : Int) = ((cn l i : Nat) : Int) := wM (by have := pA l i; omega)
theorem uF (l : LU0) : IntKind.u32.wrap (((BitVec.ofInt 32 ((cn l 0 * 16777216 : Nat) : Int) ||| BitVec.ofInt 32 ((cn l 1 * 65536 : Nat) : Int)).toNat : Nat) : Int) = ((co1 l : Nat) : Int) :=
 HN _ _ 24 (by have := pA l 1; omega) (by omega) (by have := pA l 0; have := pA l 1; omega)
theorem uH (l : LU0) : IntKind.u32.wrap (((BitVec.ofInt 32 ((co1 l : Nat) : Int) ||| BitVec.ofInt 32 ((cn l 2 * 256 : Nat) : Int)).toNat : Nat) : Int) = ((co2 l : Nat) : Int) :=
 HN _ _ 16 (by have := pA l 2; omega) (by unfold co1; omega) (by have := pA l 0; have := pA l 1; have := pA l 2; unfold co1; omega)
theorem uM {l : LU0} {n : Nat} (h : c4 l = n) : IntKind.u32.wrap (((BitVec.ofInt 32 ((co2 l : Nat) : Int) ||| BitVec.ofInt 32 ((cn l 3 : Nat) : Int)).toNat : Nat) : Int) = ((n : Nat) : Int) := by
 rw [← h, show c4 l = co2 l + cn l 3 from rfl]
 exact HN _ _ 8 (by have := pA l 3; omega) (by unfold co2 co1; omega) (by have := pA l 0; have := pA l 1; have := pA l 2; have := pA l 3; unfold co2 co1; omega)
theorem cs4 {l : LU0} (h : 4 <= l.length) : (0 : Int) <= 4 /\ (4 : Int) <= (ofL l).size := ⟨by decide, by show (4 : Int) <= ((l.length : Nat) : Int); omega⟩
theorem ab5 (C : List Value) (x : Nat) : flat [.l C, .n 4 x] = flat [.l (C ++ limbs 4 x)] := by simp [flat, Ch.cells]
theorem aaM (C : List Value) : flat [.l C, .c (.int .u64 0), .c (.int .u64 0), .c (.int .u64 0), .c (.int .u64 0)] = flat [.l (C ++ limbs 4 0)] := by simp [flat, Ch.cells, limbs]
theorem aax (x : Nat) : flat [.n 4 x] = flat [.l (limbs 4 x)] := by simp [flat, Ch.cells]
theorem S2 : flat [.c (.int .u64 0), .c (.int .u64 0), .c (.int .u64 0), .c (.int .u64 0)] = flat [.l (limbs 4 0)] := by simp [flat, Ch.cells, limbs]
def gnZ (N : Nat) (sb : LU0) (e : Int) : LState := { n := 35, sl := [(4, .p 23 0), (6, .v (.slice none 0 0)), (16, vi0 (N : Int)), (17, vi0 0)], hp := [(23, .own [.c (.string (ofL sb)), ci0 e] 85)] }
def gnI (N : Nat) (C : List Value) (i : Nat) (sb : LU0) (e : Int) : LState := { n := 35, sl := [(4, .p 23 0), (6, .sx 24 i), (16, vi0 (N : Int)), (17, vi0 (i : Int))], hp := [(23, .own [.c (.string (ofL sb)), ci0 e] 85), (24, .gr [.l C] 28 4)] }
def Ud (sb : LU0) (e : Int) : LState := { n := 35, sl := [(4, .p 23 0), (6, .v (.slice none 0 0))], hp := [(23, .own [.c (.string (ofL sb)), ci0 e] 85)] }
def gnE (C : List Value) (i : Nat) (sb : LU0) (e : Int) : LState := { n := 35, sl := [(4, .p 23 0), (6, .sx 24 i)], hp := [(23, .own [.c (.string (ofL sb)), ci0 e] 85), (24, .gr [.l C] 28 4)] }
def zU {sb : LU0} (hl : 32 <= sb.length) := PLift.up (show (0 : Int) <= 32 /\ (32 : Int) <= (ofL sb).size from ⟨by decide, by show (32 : Int) <= ((sb).length : Nat); omega⟩)
def GE {N : Nat} (hi : 0 < N) := PLift.up (ai (show decide ((0 : Int) < ((N : Nat) : Int)) = true from decide_eq_true (by omega)) tt0)
theorem yQ {c : Code} {I J : LState} {ex : Ex} {b : Prop} (o : LO0) (k : Nat) (τ : List (Nat × Nat)) (hb : b) (h : wu prog (pC _) [tf] 3 (oL o) 0 false c k I J τ = some (ex, b) := by kernel_rfl) : Sound prog 0 false c I.aa ex J.aa := rV (P := prog) (X := pC _) (env := [tf]) ⟨tv, tt0⟩ h hb
abbrev uD (a : AA) (e : Ex) (b : AA) : Prop := Sound prog 0 false (pI f8 0) a e b
theorem abD (N : Nat) (hi : 0 < N) (sb : LU0) (hl : 32 <= sb.length) (h : (gfE (sb.take 32)) = 0) : uD (gnZ N sb 0).aa .normal (gnI N (limbs 4 (gfV (sb.take 32))) 1 (sb.drop 32) (gfE (sb.take 32))).aa :=
 yQ [(108, wT), (125, rO 5 0), (139, rO 5 0), (157, wF)] 108 [(24, 161)] (ai (show ((vO 0) /\ (vO 1) /\ (Cb (.int .i64 (N : Int))) /\ (Value.int .i64 (IntKind.i64.wrap (0 + 1))) = (Value.int .i64 ((1 : Nat) : Int)) /\ True) /\ ((B1 85 [.c (.string (ofL (sb.drop 32))), ci0 (gfE (sb.take 32))]) /\ ((28 = 28 /\ 4 = 4) /\ flat [.n 4 (gfV (sb.take 32))] = flat [.l (limbs 4 (gfV (sb.take 32)))]) /\ True) from ⟨⟨rr0, rr0, rfl, rfl, tt0⟩, rr0, ⟨rr0, aax _⟩, tt0⟩) (ai (show ((gfE (sb.take 32)) != 0) = false from by rw [h]; rfl) (ai (zU hl).down (ai (zU hl).down
   (GE hi).down))))
theorem acj (N : Nat) (hi : 0 < N) (sb : LU0) (hl : 32 <= sb.length) (h : (gfE (sb.take 32)) ≠ 0) : uD (gnZ N sb 0).aa .normal (gnI N (limbs 4 (gfV (sb.take 32))) 1 (sb.drop 32) (gfE (sb.take 32))).aa :=
 yQ [(108, wT), (125, rO 5 0), (139, rO 5 0), (157, wT)] 108 [(24, 161)] (ai (show ((vO 0) /\ (vO 1) /\ (Cb (.int .i64 (N : Int))) /\ (Value.int .i64 (IntKind.i64.wrap (0 + 1))) = (Value.int .i64 ((1 : Nat) : Int)) /\ True) /\ ((B1 85 [.c (.string (ofL (sb.drop 32))), ci0 (gfE (sb.take 32))]) /\ ((28 = 28 /\ 4 = 4) /\ flat [.c (.int .u64 0), .c (.int .u64 0), .c (.int .u64 0), .c (.int .u64 0)] = flat [.l (limbs 4 (gfV (sb.take 32)))]) /\ True) from ⟨⟨rr0, rr0, rfl, rfl, tt0⟩, rr0, ⟨rr0, by rw [qM h]; exact S2⟩, tt0⟩) (ai (show ((gfE (sb.take 32)) != 0) = true from by simpa using h) (ai (zU hl).down (ai (zU hl).down
   (GE hi).down))))
theorem abh (N : Nat) (hi : 0 < N) (sb : LU0) (e : Int) (h : e ≠ 0) : uD (gnZ N sb e).aa .normal (gnI N (limbs 4 0) 1 sb e).aa :=
 yQ [(108, wT), (118, wT)] 108 [(24, 122)] (ai (show ((vO 0) /\ (vO 1) /\ (Cb (.int .i64 (N : Int))) /\ (Value.int .i64 (IntKind.i64.wrap (0 + 1))) = (Value.int .i64 ((1 : Nat) : Int)) /\ True) /\ ((B1 85 [.c (.string (ofL sb)), ci0 e]) /\ ((28 = 28 /\ 4 = 4) /\ flat [.c (.int .u64 0), .c (.int .u64 0), .c (.int .u64 0), .c (.int .u64 0)] = flat [.l (limbs 4 0)]) /\ True) from ⟨⟨rr0, rr0, rfl, rfl, tt0⟩, rr0, ⟨rr0, S2⟩, tt0⟩) (ai (show (e != 0) = true from by simpa using h)
   (GE hi).down))
def QA {i : Nat} {N : Nat} (hi : i < N) (hN : N <= 1000000) {C : List Value} (hC : C.length = i * 4) := PLift.up (show rH [.l C] = i * 4 /\ i + 1 <= 9223372036854775807 /\ (i + 1) * 32 <= 140737488355328 /\ True from ⟨by show C.length + 0 = i * 4; omega, by omega, by omega, tt0⟩)
def Hl {i : Nat} {N : Nat} (hi : i < N) (hN : N <= 1000000) {C : List Value} (hC : C.length = i * 4) := PLift.up (ai (show decide (((i : Nat) : Int) < ((N : Nat) : Int)) = true from decide_eq_true (by omega)) tt0)
def H4 : Ora := { ch := 0, hi := fun _ => 0, ex := 1 }
theorem abp (i : Nat) (N : Nat) (hi : i < N) (sb : LU0) (hN : N <= 1000000) (C : List Value) (hC : C.length = i * 4) (hl : 32 <= sb.length) (h : (gfE (sb.take 32)) = 0) : uD (gnI N C i sb 0).aa .normal (gnI N (C ++ limbs 4 (gfV (sb.take 32))) (i + 1) (sb.drop 32) (gfE (sb.take 32))).aa :=
 yQ [(108, wT), (125, rO 5 0), (139, rO 5 0), (157, wF), (161, H4)] 108 [(24, 161)] (ai (show ((vO 0) /\ (vO (i + 1)) /\ (Cb (.int .i64 (N : Int))) /\ (Value.int .i64 (IntKind.i64.wrap ((i : Int) + 1))) = (Value.int .i64 ((i + 1 : Nat) : Int)) /\ True) /\ ((B1 85 [.c (.string (ofL (sb.drop 32))), ci0 (gfE (sb.take 32))]) /\ ((28 = 28 /\ 4 = 4) /\ flat [.l C, .n 4 (gfV (sb.take 32))] = flat [.l (C ++ limbs 4 (gfV (sb.take 32)))]) /\ True) from ⟨⟨rr0, rr0, rfl, by rw [show IntKind.i64.wrap ((i : Int) + 1) = ((i + 1 : Nat) : Int) by rw [pN]; omega], tt0⟩, rr0, ⟨rr0, ab5 C _⟩, tt0⟩) (ai (QA hi hN hC).down (ai (show ((gfE (sb.take 32)) != 0) = false from by rw [h]; rfl) (ai (zU hl).down (ai (zU hl).down
   (Hl hi hN hC).down)))))
theorem acD (i : Nat) (N : Nat) (hi : i < N) (sb : LU0) (hN : N <= 1000000) (C : List Value) (hC : C.length = i * 4) (hl : 32 <= sb.length) (h : (gfE (sb.take 32)) ≠ 0) : uD (gnI N C i sb 0).aa .normal (gnI N (C ++ limbs 4 (gfV (sb.take 32))) (i + 1) (sb.drop 32) (gfE (sb.take 32))).aa :=
 yQ [(108, wT), (125, rO 5 0), (139, rO 5 0), (157, wT), (161, H4)] 108 [(24, 161)] (ai (show ((vO 0) /\ (vO (i + 1)) /\ (Cb (.int .i64 (N : Int))) /\ (Value.int .i64 (IntKind.i64.wrap ((i : Int) + 1))) = (Value.int .i64 ((i + 1 : Nat) : Int)) /\ True) /\ ((B1 85 [.c (.string (ofL (sb.drop 32))), ci0 (gfE (sb.take 32))]) /\ ((28 = 28 /\ 4 = 4) /\ flat [.l C, .c (.int .u64 0), .c (.int .u64 0), .c (.int .u64 0), .c (.int .u64 0)] = flat [.l (C ++ limbs 4 (gfV (sb.take 32)))]) /\ True) from ⟨⟨rr0, rr0, rfl, by rw [show IntKind.i64.wrap ((i : Int) + 1) = ((i + 1 : Nat) : Int) by rw [pN]; omega], tt0⟩, rr0, ⟨rr0, by rw [qM h]; exact aaM C⟩, tt0⟩) (ai (QA hi hN hC).down (ai (show ((gfE (sb.take 32)) != 0) = true from by simpa using h) (ai (zU hl).down (ai (zU hl).down
   (Hl hi hN hC).down)))))
theorem acv (i : Nat) (N : Nat) (hi : i < N) (sb : LU0) (hN : N <= 1000000) (C : List Value) (hC : C.length = i * 4) (e : Int) (h : e ≠ 0) : uD (gnI N C i sb e).aa .normal (gnI N (C ++ limbs 4 0) (i + 1) sb e).aa :=
 yQ [(108, wT), (118, wT), (122, H4)] 108 [(24, 122)] (ai (show ((vO 0) /\ (vO (i + 1)) /\ (Cb (.int .i64 (N : Int))) /\ (Value.int .i64 (IntKind.i64.wrap ((i : Int) + 1))) = (Value.int .i64 ((i + 1 : Nat) : Int)) /\ True) /\ ((B1 85 [.c (.string (ofL sb)), ci0 e]) /\ ((28 = 28 /\ 4 = 4) /\ flat [.l C, .c (.int .u64 0), .c (.int .u64 0), .c (.int .u64 0), .c (.int .u64 0)] = flat [.l (C ++ limbs 4 0)]) /\ True) from ⟨⟨rr0, rr0, rfl, by rw [show IntKind.i64.wrap ((i : Int) + 1) = ((i + 1 : Nat) : Int) by rw [pN]; omega], tt0⟩, rr0, ⟨rr0, aaM C⟩, tt0⟩) (ai (QA hi hN hC).down (ai (show (e != 0) = true from by simpa using h)
   (Hl hi hN hC).down)))
theorem OJ {c : Code} {I L : LState} {ex : Ex} {b : Prop} (o : LO0) (k : Nat) (sk hk : List Nat) (hb : b) (h : vj prog (pC _) [] 0 (oL o) 0 false c k I sk hk [] = some (ex, L, b) := by kernel_rfl) : Sound prog 0 false c I.aa ex L.aa := pG (P := prog) (X := pC _) (env := []) trivial h hb
theorem IK (N : Nat) (hN : N = 0) (sb : LU0) (e : Int) : uD (gnZ N sb e).aa (.exit 0) (Ud sb e).aa :=
 OJ [(108, wF)] 108 [4, 6] [23] (ai (show decide ((0 : Int) < ((N : Nat) : Int)) = false from decide_eq_false (by omega)) tt0)
theorem UD (N : Nat) (C : List Value) (sb : LU0) (e : Int) : uD (gnI N C N sb e).aa (.exit 0) (gnE C N sb e).aa :=
 OJ [(108, wF)] 108 [4, 6] [23, 24] (ai (show decide (((N : Nat) : Int) < ((N : Nat) : Int)) = false from decide_eq_false (by omega)) tt0)
def gnV (st : Int × LU0) (j : Nat) : Nat := rvl 32 gfV 0 (nst 32 gfE j st)
def xQ (st : Int × LU0) (i : Nat) : List Nat := (List.range i).map (gnV st)
theorem BR (st : Int × LU0) (i : Nat) : numC 4 (xQ st (i + 1)) = numC 4 (xQ st i) ++ limbs 4 (gnV st i) := by
 unfold xQ
 rw [List.range_succ, List.map_append]
 simp [numC]
theorem QO (st : Int × LU0) (i : Nat) : (numC 4 (xQ st i)).length = i * 4 := by
 rw [zF]; simp [xQ]
theorem gnz (N : Nat) (hi : 0 < N) (st : Int × LU0) (hl : st.1 = 0 -> 32 <= st.2.length) : uD (gnZ N st.2 st.1).aa .normal (gnI N (limbs 4 (rvl 32 gfV 0 st)) 1 (rst 32 gfE st).2 (rst 32 gfE st).1).aa := by
 obtain ⟨e, sb⟩ := st
 by_cases h : e = 0
 ·subst h
  by_cases h1 : gfE (sb.take 32) = 0
  ·exact abD N hi sb (hl rfl) h1
  ·exact acj N hi sb (hl rfl) h1
 ·rw [show rst 32 gfE (e, sb) = (e, sb) from if_neg h, show rvl 32 gfV 0 (e, sb) = 0 from if_neg h]
  exact abh N hi sb e h
theorem gnr (N i : Nat) (hi : i < N) (hN : N <= 1000000) (C : List Value) (hC : C.length = i * 4) (st : Int × LU0) (hl : st.1 = 0 -> 32 <= st.2.length) : uD (gnI N C i st.2 st.1).aa .normal (gnI N (C ++ limbs 4 (rvl 32 gfV 0 st)) (i + 1) (rst 32 gfE st).2 (rst 32 gfE st).1).aa := by
 obtain ⟨e, sb⟩ := st
 by_cases h : e = 0
 ·subst h
  by_cases h1 : gfE (sb.take 32) = 0
  ·exact abp i N hi sb hN C hC (hl rfl) h1
  ·exact acD i N hi sb hN C hC (hl rfl) h1
 ·rw [show rst 32 gfE (e, sb) = (e, sb) from if_neg h, show rvl 32 gfV 0 (e, sb) = 0 from if_neg h]
  exact acv i N hi sb hN C hC e h
def gnF (N : Nat) (st : Int × LU0) : Nat -> LState
 | 0 => gnZ N st.2 st.1
 | i + 1 => gnI N (numC 4 (xQ st (i + 1))) (i + 1) (nst 32 gfE (i + 1) st).2 (nst 32 gfE (i + 1) st).1
theorem Vj (N : Nat) (st : Int × LU0) (h0 : st.1 = 0 -> 32 * N <= st.2.length) (i : Nat) (hi : i < N) : (nst 32 gfE i st).1 = 0 -> 32 <= (nst 32 gfE i st).2.length := by
 intro h
 obtain ⟨h1, h2, _⟩ := p7 i st h
 rw [h2]
 show 32 <= (st.2.drop (32 * i)).length
 have := h0 h1
 rw [List.length_drop]
 omega
theorem GJ (N : Nat) (h1 : 0 < N) (hN : N <= 1000000) (st : Int × LU0) (h0 : st.1 = 0 -> 32 * N <= st.2.length) : Sound prog 0 false (.loop (pI f8 0)) (gnZ N st.2 st.1).aa (.exit 0) (gnE (numC 4 (xQ st N)) N (nst 32 gfE N st).2 (nst 32 gfE N st).1).aa := by
 have hh := qr (P := prog) (fb := 0) (rd := false) (body := (pI f8 0)) (ex := .exit 0) (E := gnE (numC 4 (xQ st N)) N (nst 32 gfE N st).2 (nst 32 gfE N st).1) (m := fun y : { i : Nat // i <= N } => N - y.val) (fun y => gnF N st y.val) (by simp) (fun y => ?_) ⟨0, by omega⟩
 ·exact hh
 obtain ⟨i, hi⟩ := y
 by_cases e : i < N
 ·refine .inl ⟨⟨i + 1, e⟩, by show N - (i + 1) < N - i; omega, ?_⟩
  have hl := Vj N st h0 i e
  cases i with
  | zero =>
   have h := gnz N e st hl
   show Sound _ _ _ _ (gnZ N st.2 st.1).aa _ (gnI N (numC 4 (xQ st 1)) 1 _ _).aa
   rw [BR, show numC 4 (xQ st 0) = [] from rfl, List.nil_append]
   exact h
  | succ k =>
   have h := gnr N (k + 1) e hN (numC 4 (xQ st (k + 1))) (QO st _) (nst 32 gfE (k + 1) st) hl
   show Sound _ _ _ _ _ _ (gnI N (numC 4 (xQ st (k + 1 + 1))) (k + 1 + 1) _ _).aa
   rw [BR]
   exact h
 ·have e : i = N := by omega
  subst e
  refine .inr ?_
  cases i with
  | zero => omega
  | succ k => exact UD (k + 1) _ _ _
end Go.Proofs.YtokjhbmmdmeafaaGreat
set_option linter.unusedSimpArgs false
set_option linter.unusedVariables false
namespace Go.Proofs.YtokjhbmmdmeafaaGreat
open Go.Ev Go.RowKit
open Tryz
theorem vt {a b : Int} (h : a = b) : (a != b) = false := by rw [h]; simp
theorem s8 {body : Code} {A B : LState} {i : Nat} (h : Sound prog 0 false body A.aa (.exit i) B.aa) : Sound prog 0 false (.loop body) A.aa (.exit i) B.aa :=
 qr (m := fun _ : Unit => 0) (fun _ => A) (by simp) (fun _ => .inr h) ()
def HB {l : LU0} (hn : l.length < 4) := PLift.up (ai (show decide ((((ofL l).size : Nat) : Int) < 4) = true from decide_eq_true (by show  ((l.length : Nat) : Int) < 4; omega)) tt0)
abbrev tT (l : LU0) : List XV := [.t (.v (.string (ofL l)))]
theorem uN {a : List XV} {r : AV} {b : Prop} (o : LO0) (hb : b) (h : fnA prog (pC _) [tf] 3 (oL o) f8 a = some (r, b) := by kernel_rfl) (hv : ∃ v, r.val? = some v := by exact ⟨_, rfl⟩) : Gives prog 8 a r := pz (P := prog) (X := pC _) (env := [tf]) ⟨tv, tt0⟩ func8 3 (oL o) h hv hb
theorem abY (l : LU0) (hn : l.length < 4) : Gives prog 8 (tT l) (.tp [.v (.slice none 0 0), vi0 80]) :=
 uN [(9, wT)] (HB hn).down
def OF {l : LU0} (hn : 4 <= l.length) := PLift.up (show (0 : Int) <= 4 /\ (4 : Int) <= (ofL l).size from ⟨by decide, by show (4 : Int) <= ((l).length : Nat); omega⟩)
def ER {l : LU0} (hn : 4 <= l.length) := PLift.up (ai (OF hn).down (ai (show decide ((((ofL l).size : Nat) : Int) < 4) = false from decide_eq_false (by show ¬ ((l.length : Nat) : Int) < 4; omega)) tt0))
theorem abm (l : LU0) (hn : 4 <= l.length) (hm : l.take 4 ≠ mgW) : Gives prog 8 (tT l) (.tp [.v (.slice none 0 0), vi0 80]) :=
 uN [(9, wF), (14, rO 5 0), (16, wT)] (ai (show (!((ofL (l.take 4)).toList == (ofL mgW).toList)) = true from BM hm)
   (ER hn).down)
def Jp {l : LU0} (hn : 4 <= l.length) (hm : l.take 4 = mgW) := PLift.up (ai (OF hn).down (ai (show (!((ofL (l.take 4)).toList == (ofL mgW).toList)) = false from by rw [hm]; simp)
   (ER hn).down))
abbrev Gz : AV := .tp [.v (.slice none 0 0), vi0 3]
theorem Xa (l : LU0) (hn : 4 <= l.length) (hm : l.take 4 = mgW) (h4 : (l.drop 4).length < 4) (hx : (l.drop 4).length = 0) : Gives prog 8 (tT l) Gz :=
 uN [(9, wF), (14, rO 5 0), (16, wF), (21, rO 5 0), (40, wT), (64, wF)] (ai (show ((((ofL (l.drop 4)).size : Nat) : Int) != 0) = false from by
    have h1 : (((l.drop 4).length : Nat) : Int) = 0 := by omega
    exact vt h1) (ai (show decide ((((ofL (l.drop 4)).size : Nat) : Int) < 4) = true from decide_eq_true (by show (((l.drop 4).length : Nat) : Int) < 4; omega))
   (Jp hn hm).down))
theorem YP (l : LU0) (hn : 4 <= l.length) (hm : l.take 4 = mgW) (h4 : (l.drop 4).length < 4) (hx : (l.drop 4).length ≠ 0) : Gives prog 8 (tT l) Gz :=
 uN [(9, wF), (14, rO 5 0), (16, wF), (21, rO 5 0), (40, wT), (64, wT)] (ai (show ((((ofL (l.drop 4)).size : Nat) : Int) != 0) = true from by
    have h1 : (((l.drop 4).length : Nat) : Int) ≠ 0 := by omega
    exact bne_iff_ne.2 h1) (ai (show decide ((((ofL (l.drop 4)).size : Nat) : Int) < 4) = true from decide_eq_true (by show (((l.drop 4).length : Nat) : Int) < 4; omega))
   (Jp hn hm).down))
def TR {l : LU0} (hn : 4 <= l.length) (hm : l.take 4 = mgW) (h4 : 4 <= (l.drop 4).length) := PLift.up (ai (cs4 h4) (ai (uM (rfl : c4 (l.drop 4) = c4 (l.drop 4))) (ai (cw (l.drop 4) 3) (ai (cid 3 h4 (by decide)) (ai (uH (l.drop 4)) (ai (Cz (pA (l.drop 4) 2)) (ai (cw (l.drop 4) 2) (ai (cid 2 h4 (by decide)) (ai (uF (l.drop 4)) (ai (zh (pA (l.drop 4) 1)) (ai (cw (l.drop 4) 1) (ai (cid 1 h4 (by decide)) (ai (zs (pA (l.drop 4) 0)) (ai (cw (l.drop 4) 0) (ai (cid 0 h4 (by decide)) (ai (clt h4)
   (Jp hn hm).down))))))))))))))))
def S6 {l : LU0} (hn : 4 <= l.length) (hm : l.take 4 = mgW) (h4 : 4 <= (l.drop 4).length) (hN : 64 < (c4 (l.drop 4))) := PLift.up (TR hn hm h4).down
def Uu (l : LU0) : Nat × Ora := (53, tn (cn (l.drop 4) 0 * 16777216))
def Wd (l : LU0) : Nat × Ora := (60, tn (cn (l.drop 4) 1 * 65536))
def We (l : LU0) : Nat × Ora := (68, tn (cn (l.drop 4) 2 * 256))
def TZ (l : LU0) : Nat × Ora := (74, rO 1 (cn (l.drop 4) 3))
def UO (l : LU0) : Nat × Ora := (66, rO 1 (cn (l.drop 4) 2))
def WF (l : LU0) : Nat × Ora := (58, rO 1 (cn (l.drop 4) 1))
def Ve (l : LU0) : Nat × Ora := (51, rO 1 (cn (l.drop 4) 0))
def Wg (l : LU0) : Nat × Ora := (75, tn (cn (l.drop 4) 3))
def WJ (l : LU0) : Nat × Ora := (67, tn (cn (l.drop 4) 2))
def Wo (l : LU0) : Nat × Ora := (59, tn (cn (l.drop 4) 1))
def VG (l : LU0) : Nat × Ora := (52, tn (cn (l.drop 4) 0))
def Ue (l : LU0) : Nat × Ora := (69, tn (co2 (l.drop 4)))
def UM (l : LU0) : Nat × Ora := (61, tn (co1 (l.drop 4)))
def UW (l : LU0) : Nat × Ora := (76, tn (c4 (l.drop 4)))
def xK (l : LU0) : LO0 := [(9, wF), (14, rO 5 0), (16, wF), (21, rO 5 0), (40, wF), (Ve l), (VG l), (Uu l), (WF l), (Wo l), (Wd l), (UM l), (UO l), (WJ l), (We l), (Ue l), (TZ l), (Wg l), (UW l), (83, rO 5 0)]
theorem aaz (l : LU0) (hn : 4 <= l.length) (hm : l.take 4 = mgW) (h4 : 4 <= (l.drop 4).length) (hN : 64 < (c4 (l.drop 4))) (hx : ((l.drop 4).drop 4).length = 0) : Gives prog 8 (tT l) (.tp [.v (.slice none 0 0), vi0 2]) :=
 uN ((xK l) ++ [(89, wT), (107, wF)]) (ai (show ((((ofL ((l.drop 4).drop 4)).size : Nat) : Int) != 0) = false from by
    have h1 : ((((l.drop 4).drop 4).length : Nat) : Int) = 0 := by omega
    exact vt h1) (ai (show decide (((c4 (l.drop 4) : Nat) : Int) > 64) = true from decide_eq_true (by omega))
   (S6 hn hm h4 hN).down))
theorem Yl (l : LU0) (hn : 4 <= l.length) (hm : l.take 4 = mgW) (h4 : 4 <= (l.drop 4).length) (hN : 64 < (c4 (l.drop 4))) (hx : ((l.drop 4).drop 4).length ≠ 0) : Gives prog 8 (tT l) (.tp [.v (.slice none 0 0), vi0 2]) :=
 uN ((xK l) ++ [(89, wT), (107, wT)]) (ai (show ((((ofL ((l.drop 4).drop 4)).size : Nat) : Int) != 0) = true from by
    have h1 : ((((l.drop 4).drop 4).length : Nat) : Int) ≠ 0 := by omega
    exact bne_iff_ne.2 h1) (ai (show decide (((c4 (l.drop 4) : Nat) : Int) > 64) = true from decide_eq_true (by omega))
   (S6 hn hm h4 hN).down))
def TD {l : LU0} (hn : 4 <= l.length) (hm : l.take 4 = mgW) (h4 : 4 <= (l.drop 4).length) (hN : (c4 (l.drop 4)) <= 64) := PLift.up (ai (show IntKind.i64.wrap ((((c4 (l.drop 4)) : Nat) : Int) * 32) = (((c4 (l.drop 4)) * 32 : Nat) : Int) from by
    rw [show (((c4 (l.drop 4)) : Nat) : Int) * 32 = (((c4 (l.drop 4)) * 32 : Nat) : Int) by omega]
    exact py (by omega)) (ai (show IntKind.i64.wrap (((c4 (l.drop 4)) : Nat) : Int) = (((c4 (l.drop 4)) : Nat) : Int) from py (by omega)) (ai (show decide (((c4 (l.drop 4) : Nat) : Int) > 64) = false from decide_eq_false (by omega))
   (TR hn hm h4).down)))
def Ql {l : LU0} (hn : 4 <= l.length) (hm : l.take 4 = mgW) (h4 : 4 <= (l.drop 4).length) (hN : (c4 (l.drop 4)) <= 64) (hx : ((l.drop 4).drop 4).length = 32 * (c4 (l.drop 4))) := PLift.up (ai (show ((((ofL ((l.drop 4).drop 4)).size : Nat) : Int) != (((c4 (l.drop 4)) * 32 : Nat) : Int)) = false from by
    have h1 : ((((l.drop 4).drop 4).length : Nat) : Int) = (((c4 (l.drop 4)) * 32 : Nat) : Int) := by omega
    exact vt h1)
   (TD hn hm h4 hN).down)
def Gy (l : LU0) := PLift.up (show some (gnZ (c4 (l.drop 4)) ((l.drop 4).drop 4) 0) = some (gnZ (c4 (l.drop 4)) ((l.drop 4).drop 4) 0) from rfl)
def BI (l : LU0) : Nat × Ora := (96, { ch := 1, hi := fun _ => (c4 (l.drop 4)) * 32 })
def Bq (l : LU0) : Nat × Ora := (92, { ch := 1, hi := fun _ => (c4 (l.drop 4)) })
theorem Vp (l : LU0) (hn : 4 <= l.length) (hm : l.take 4 = mgW) (h4 : 4 <= (l.drop 4).length) (hN : (c4 (l.drop 4)) <= 64) (hx : ((l.drop 4).drop 4).length = 32 * (c4 (l.drop 4))) (hz : (c4 (l.drop 4)) = 0) : Gives prog 8 (tT l) (.tp [.v (.slice none 0 0), vi0 0]) :=
 uN ((xK l) ++ [(89, wF), (Bq l), (BI l), (104, wF), (108, lpO { I := gnZ (c4 (l.drop 4)) ((l.drop 4).drop 4) 0, ex := .exit 0, E := Ud ((l.drop 4).drop 4) 0, fr := 109 })]) (ai (Gy l).down (ai (s8 (IK (c4 (l.drop 4)) hz ((l.drop 4).drop 4) 0))
   (Ql hn hm h4 hN hx).down))
def QI (l : LU0) : Nat × Ora := (108, lpO { I := gnZ (c4 (l.drop 4)) ((l.drop 4).drop 4) 0, ex := .exit 0, E := gnE (numC 4 (xQ (0, ((l.drop 4).drop 4)) (c4 (l.drop 4)))) (c4 (l.drop 4)) (nst 32 gfE (c4 (l.drop 4)) (0, ((l.drop 4).drop 4))).2 (nst 32 gfE (c4 (l.drop 4)) (0, ((l.drop 4).drop 4))).1, fr := 109 })
theorem Vn (l : LU0) (hn : 4 <= l.length) (hm : l.take 4 = mgW) (h4 : 4 <= (l.drop 4).length) (hN : (c4 (l.drop 4)) <= 64) (hx : ((l.drop 4).drop 4).length = 32 * (c4 (l.drop 4))) (hz : 0 < (c4 (l.drop 4))) (h : (nst 32 gfE (c4 (l.drop 4)) (0, ((l.drop 4).drop 4))).1 ≠ 0) : Gives prog 8 (tT l) (.tp [.v (.slice none 0 0), vi0 (nst 32 gfE (c4 (l.drop 4)) (0, ((l.drop 4).drop 4))).1]) :=
 uN ((xK l) ++ [(89, wF), (Bq l), (BI l), (104, wF), (QI l), (113, wT)]) (ai (show ((nst 32 gfE (c4 (l.drop 4)) (0, ((l.drop 4).drop 4))).1 != 0) = true from by simpa using h) (ai (Gy l).down (ai (GJ (c4 (l.drop 4)) hz (by omega) (0, ((l.drop 4).drop 4)) (fun _ => by show 32 * (c4 (l.drop 4)) <= ((l.drop 4).drop 4).length; omega))
   (Ql hn hm h4 hN hx).down)))
theorem W6 (l : LU0) (hn : 4 <= l.length) (hm : l.take 4 = mgW) (h4 : 4 <= (l.drop 4).length) (hN : (c4 (l.drop 4)) <= 64) (hx : ((l.drop 4).drop 4).length = 32 * (c4 (l.drop 4))) (hz : 0 < (c4 (l.drop 4))) (h : (nst 32 gfE (c4 (l.drop 4)) (0, ((l.drop 4).drop 4))).1 = 0) : wH prog 8 (tT l) (fun k => .tp [.sx k (c4 (l.drop 4)), vi0 0]) (.gr [.l (numC 4 (xQ (0, ((l.drop 4).drop 4)) (c4 (l.drop 4))))] 28 4) :=
 zp (P := prog) (X := pC _) (env := [tf]) ⟨tv, tt0⟩ func8 (fun args w => Go.Proofs.enters_of (P := prog) func8 (by kernel_rfl) rfl args w) 3 (oL ((xK l) ++ [(89, wF), (Bq l), (BI l), (104, wF), (QI l), (113, wF)])) (r0 := .tp [.sx 24 (c4 (l.drop 4)), vi0 0]) 24 (by kernel_rfl) rfl (ai (show ((nst 32 gfE (c4 (l.drop 4)) (0, ((l.drop 4).drop 4))).1 != 0) = false from by rw [h]; rfl) (ai (Gy l).down (ai (GJ (c4 (l.drop 4)) hz (by omega) (0, ((l.drop 4).drop 4)) (fun _ => by show 32 * (c4 (l.drop 4)) <= ((l.drop 4).drop 4).length; omega))
   (Ql hn hm h4 hN hx).down))) _ (fun ρ ρ' k u v h1 h2 h3 => VC ρ ρ' k u v h1 h2 h3)
def LS {l : LU0} (hn : 4 <= l.length) (hm : l.take 4 = mgW) (h4 : 4 <= (l.drop 4).length) (hN : (c4 (l.drop 4)) <= 64) (hx : ((l.drop 4).drop 4).length ≠ 32 * (c4 (l.drop 4))) := PLift.up (ai (show ((((ofL ((l.drop 4).drop 4)).size : Nat) : Int) != (((c4 (l.drop 4)) * 32 : Nat) : Int)) = true from by
    have h1 : ((((l.drop 4).drop 4).length : Nat) : Int) ≠ (((c4 (l.drop 4)) * 32 : Nat) : Int) := by omega
    exact bne_iff_ne.2 h1)
   (TD hn hm h4 hN).down)
abbrev CW (l : LU0) := gnZ (c4 (l.drop 4)) ((l.drop 4).drop 4) 3
theorem WX (l : LU0) (hn : 4 <= l.length) (hm : l.take 4 = mgW) (h4 : 4 <= (l.drop 4).length) (hN : (c4 (l.drop 4)) <= 64) (hx : ((l.drop 4).drop 4).length ≠ 32 * (c4 (l.drop 4))) (hz : (c4 (l.drop 4)) = 0) : Gives prog 8 (tT l) Gz :=
 uN ((xK l) ++ [(89, wF), (Bq l), (BI l), (104, wT), (120, lpO { I := gnZ (c4 (l.drop 4)) ((l.drop 4).drop 4) 3, ex := .exit 0, E := Ud ((l.drop 4).drop 4) 3, fr := 121 })]) (ai (show some (CW l) = some (CW l) from rfl) (ai (s8 (IK (c4 (l.drop 4)) hz ((l.drop 4).drop 4) 3))
   (LS hn hm h4 hN hx).down))
theorem WM (l : LU0) (hn : 4 <= l.length) (hm : l.take 4 = mgW) (h4 : 4 <= (l.drop 4).length) (hN : (c4 (l.drop 4)) <= 64) (hx : ((l.drop 4).drop 4).length ≠ 32 * (c4 (l.drop 4))) (hz : 0 < (c4 (l.drop 4))) : Gives prog 8 (tT l) (.tp [.v (.slice none 0 0), vi0 (nst 32 gfE (c4 (l.drop 4)) (3, ((l.drop 4).drop 4))).1]) :=
 uN ((xK l) ++ [(89, wF), (Bq l), (BI l), (104, wT), (120, lpO { I := gnZ (c4 (l.drop 4)) ((l.drop 4).drop 4) 3, ex := .exit 0, E := gnE (numC 4 (xQ (3, ((l.drop 4).drop 4)) (c4 (l.drop 4)))) (c4 (l.drop 4)) (nst 32 gfE (c4 (l.drop 4)) (3, ((l.drop 4).drop 4))).2 (nst 32 gfE (c4 (l.drop 4)) (3, ((l.drop 4).drop 4))).1, fr := 121 }), (125, wT)]) (ai (show ((nst 32 gfE (c4 (l.drop 4)) (3, ((l.drop 4).drop 4))).1 != 0) = true from by rw [si (show ((3, ((l.drop 4).drop 4)) : Int × LU0).1 ≠ 0 from (by show (3 : Int) ≠ 0; decide))]; rfl) (ai (show some (CW l) = some (CW l) from rfl) (ai (GJ (c4 (l.drop 4)) hz (by omega) (3, ((l.drop 4).drop 4)) (fun h => by exact absurd (show (3 : Int) = 0 from h) (by decide)))
   (LS hn hm h4 hN hx).down)))
def Aa (l : LU0) : Int := if l.take 4 = mgW then (if (l.drop 4).length < 4 then 3 else if 64 < c4 (l.drop 4) then 2 else if ((l.drop 4).drop 4).length = 32 * c4 (l.drop 4) then (nst 32 gfE (c4 (l.drop 4)) (0, (l.drop 4).drop 4)).1 else 3) else 80
theorem AK (l : LU0) : (Aa l ≠ 0 /\ Gives prog 8 [.t (.v (.string (ofL l)))] (.tp [.v (.slice none 0 0), vi0 (Aa l)])) ∨ (Aa l = 0 /\ l.take 4 = mgW /\ 4 <= (l.drop 4).length /\ c4 (l.drop 4) <= 64 /\ ((l.drop 4).drop 4).length = 32 * c4 (l.drop 4) /\ (nst 32 gfE (c4 (l.drop 4)) (0, (l.drop 4).drop 4)).1 = 0) := by
 by_cases hm : l.take 4 = mgW
 ·have hn : 4 <= l.length := by
   have := congrArg List.length hm
   rw [List.length_take] at this
   have h5 : mgW.length = 4 := rfl
   omega
  by_cases h4 : (l.drop 4).length < 4
  ·have e : Aa l = 3 := (if_pos hm).trans (if_pos h4)
   rw [e]
   refine .inl ⟨by decide, ?_⟩
   by_cases hx : (l.drop 4).length = 0
   ·exact Xa l hn hm h4 hx
   ·exact YP l hn hm h4 hx
  ·have e0 : Aa l = _ := (if_pos hm).trans (if_neg h4)
   have h4 : 4 <= (l.drop 4).length := by omega
   by_cases hN : 64 < c4 (l.drop 4)
   ·rw [e0.trans (if_pos hN)]
    refine .inl ⟨by decide, ?_⟩
    by_cases hx : ((l.drop 4).drop 4).length = 0
    ·exact aaz l hn hm h4 hN hx
    ·exact Yl l hn hm h4 hN hx
   ·have e1 := e0.trans (if_neg hN)
    have hN : c4 (l.drop 4) <= 64 := by omega
    by_cases hx : ((l.drop 4).drop 4).length = 32 * c4 (l.drop 4)
    ·have e2 := e1.trans (if_pos hx)
     by_cases h : (nst 32 gfE (c4 (l.drop 4)) (0, (l.drop 4).drop 4)).1 = 0
     ·exact .inr ⟨e2.trans h, hm, h4, hN, hx, h⟩
     ·rw [e2]
      refine .inl ⟨h, ?_⟩
      rcases Nat.eq_zero_or_pos (c4 (l.drop 4)) with hz | hz
      ·exact absurd (by rw [hz]; rfl) h
      ·exact Vn l hn hm h4 hN hx hz h
    ·rw [e1.trans (if_neg hx)]
     refine .inl ⟨by decide, ?_⟩
     rcases Nat.eq_zero_or_pos (c4 (l.drop 4)) with hz | hz
     ·exact WX l hn hm h4 hN hx hz
     ·have e3 := WM l hn hm h4 hN hx hz
      rw [si (show ((3, (l.drop 4).drop 4) : Int × LU0).1 ≠ 0 from (by show (3 : Int) ≠ 0; decide))] at e3
      exact e3
 ·have e : Aa l = 80 := if_neg hm
  rw [e]
  refine .inl ⟨by decide, ?_⟩
  by_cases hn : l.length < 4
  ·exact abY l hn
  ·exact abm l (by omega) hm
end Go.Proofs.YtokjhbmmdmeafaaGreat
set_option linter.unusedSimpArgs false
set_option linter.unusedVariables false
namespace Go.Proofs.YtokjhbmmdmeafaaGreat
open Go.Ev Go.RowKit
open Tryz
theorem xv (a : LU0) : ((ofL a).toList == (ofL a).toList) = true := by simp
theorem xu {a b : LU0} (h : (a == b) = false) : ((ofL a).toList == (ofL b).toList) = false := by rw [ww, ww]; exact h
theorem PY {a : Nat} (h : a < 256) : IntKind.i64.wrap (((a : Nat) : Int) * 2 ^ min (24 : Int).toNat IntKind.i64.bits) = ((a * 16777216 : Nat) : Int) := by
 have e : (2 : Int) ^ min (24 : Int).toNat IntKind.i64.bits = 16777216 := by decide
 rw [e, show ((a : Nat) : Int) * 16777216 = ((a * 16777216 : Nat) : Int) by omega]
 exact py (by omega)
theorem PQ {a : Nat} (h : a < 256) : IntKind.i64.wrap (((a : Nat) : Int) * 2 ^ min (16 : Int).toNat IntKind.i64.bits) = ((a * 65536 : Nat) : Int) := by
 have e : (2 : Int) ^ min (16 : Int).toNat IntKind.i64.bits = 65536 := by decide
 rw [e, show ((a : Nat) : Int) * 65536 = ((a * 65536 : Nat) : Int) by omega]
 exact py (by omega)
theorem TH {a : Nat} (h : a < 256) : IntKind.i64.wrap (((a : Nat) : Int) * 2 ^ min (8 : Int).toNat IntKind.i64.bits) = ((a * 256 : Nat) : Int) := by
 have e : (2 : Int) ^ min (8 : Int).toNat IntKind.i64.bits = 256 := by decide
 rw [e, show ((a : Nat) : Int) * 256 = ((a * 256 : Nat) : Int) by omega]
 exact py (by omega)
theorem uI {a : List XV} {r : AV} {b : Prop} (o : LO0) (hb : b) (h : fnA prog (pC _) [] 1 (oL o) f12 a = some (r, b) := by kernel_rfl) (hv : ∃ v, r.val? = some v := by exact ⟨_, rfl⟩) : Gives prog 12 a r := pz (P := prog) (X := pC _) (env := []) trivial func12 1 (oL o) h hv hb
theorem YV (l : LU0) (hs : l.length <= 9223372036854775807) (hn : l.length < 4) : Gives prog 12 [.t (.v (.string (ofL mgP))), .t (.v (.string (ofL l)))] (vi0 80) :=
 uI [(3, wT)] (HB hn).down
theorem ZZ (l : LU0) (hs : l.length <= 9223372036854775807) (hn : 4 <= l.length) (hm : l.take 4 ≠ mgP) : Gives prog 12 [.t (.v (.string (ofL mgP))), .t (.v (.string (ofL l)))] (vi0 80) :=
 uI [(3, wF), (6, rO 5 0), (8, wT)] (ai (show (!((ofL (l.take 4)).toList == (ofL mgP).toList)) = true from BM hm)
   (ER hn).down)
def NL {l : LU0} (hn : 4 <= l.length) (hm : l.take 4 = mgP) := PLift.up (ai (OF hn).down (ai (show (!((ofL (l.take 4)).toList == (ofL mgP).toList)) = false from by rw [hm]; simp)
   (ER hn).down))
theorem aad (l : LU0) (hs : l.length <= 9223372036854775807) (hn : 4 <= l.length) (hm : l.take 4 = mgP) (hx : l.length = 628) : Gives prog 12 [.t (.v (.string (ofL mgP))), .t (.v (.string (ofL l)))] (vi0 0) :=
 uI [(3, wF), (6, rO 5 0), (8, wF), (12, rO 5 0), (17, wT), (33, wF)] (ai (show (IntKind.i64.wrap ((((ofL l).size : Nat) : Int) - 4) != 624) = false from by
    have h1 : IntKind.i64.wrap ((((ofL l).size : Nat) : Int) - 4) = ((l.length : Nat) : Int) - 4 := by
     show IntKind.i64.wrap (((l.length : Nat) : Int) - 4) = _
     rw [pN]; omega
    rw [h1]
    exact vt (by omega)) (ai (show ((ofL mgP).toList == (ofL mgP).toList) = true from xv _)
   (NL hn hm).down))
theorem YU (l : LU0) (hs : l.length <= 9223372036854775807) (hn : 4 <= l.length) (hm : l.take 4 = mgP) (hx : l.length ≠ 628) : Gives prog 12 [.t (.v (.string (ofL mgP))), .t (.v (.string (ofL l)))] (vi0 3) :=
 uI [(3, wF), (6, rO 5 0), (8, wF), (12, rO 5 0), (17, wT), (33, wT)] (ai (show (IntKind.i64.wrap ((((ofL l).size : Nat) : Int) - 4) != 624) = true from by
    have h1 : IntKind.i64.wrap ((((ofL l).size : Nat) : Int) - 4) = ((l.length : Nat) : Int) - 4 := by
     show IntKind.i64.wrap (((l.length : Nat) : Int) - 4) = _
     rw [pN]; omega
    rw [h1]
    exact bne_iff_ne.2 (by omega)) (ai (show ((ofL mgP).toList == (ofL mgP).toList) = true from xv _)
   (NL hn hm).down))
theorem aaa (l : LU0) (hs : l.length <= 9223372036854775807) (hn : l.length < 4) : Gives prog 12 [.t (.v (.string (ofL mgW))), .t (.v (.string (ofL l)))] (vi0 80) :=
 uI [(3, wT)] (HB hn).down
theorem Xk (l : LU0) (hs : l.length <= 9223372036854775807) (hn : 4 <= l.length) (hm : l.take 4 ≠ mgW) : Gives prog 12 [.t (.v (.string (ofL mgW))), .t (.v (.string (ofL l)))] (vi0 80) :=
 uI [(3, wF), (6, rO 5 0), (8, wT)] (ai (show (!((ofL (l.take 4)).toList == (ofL mgW).toList)) = true from BM hm)
   (ER hn).down)
def Oz {l : LU0} (hn : 4 <= l.length) (hm : l.take 4 = mgW) := PLift.up (ai (show ((ofL mgW).toList == (ofL mgV).toList) = false from xu (by decide)) (ai (show ((ofL mgW).toList == (ofL mgP).toList) = false from xu (by decide))
   (Jp hn hm).down))
theorem abb (l : LU0) (hs : l.length <= 9223372036854775807) (hn : 4 <= l.length) (hm : l.take 4 = mgW) (h4 : (l.drop 4).length < 4) : Gives prog 12 [.t (.v (.string (ofL mgW))), .t (.v (.string (ofL l)))] (vi0 3) :=
 uI [(3, wF), (6, rO 5 0), (8, wF), (12, rO 5 0), (17, wF), (19, wF), (23, wT)] (ai (show decide ((((ofL (l.drop 4)).size : Nat) : Int) < 4) = true from decide_eq_true (by show  (((l.drop 4).length : Nat) : Int) < 4; omega))
   (Oz hn hm).down)
def Nt {l : LU0} (hs : l.length <= 9223372036854775807) (hn : 4 <= l.length) (hm : l.take 4 = mgW) (h4 : 4 <= (l.drop 4).length) := PLift.up (ai (show IntKind.i64.wrap ((cn (l.drop 4) 3 : Nat) : Int) = ((cn (l.drop 4) 3 : Nat) : Int) from py (by have := pA (l.drop 4) 3; omega)) (ai (show (0 : Int) <= 3 /\ (3 : Int) < (ofL (l.drop 4)).size /\ ((ofL (l.drop 4))[(3 : Int).toNat]?.getD 0).toNat = cn (l.drop 4) 3 from tR (l.drop 4) 3 (by have h4 : 4 <= (l.drop 4).length := h4; omega)) (ai (show IntKind.i64.wrap (((BitVec.ofInt 64 (((cn (l.drop 4) 0 * 16777216) + cn (l.drop 4) 1 * 65536 : Nat) : Int) ||| BitVec.ofInt 64 ((cn (l.drop 4) 2 * 256 : Nat) : Int)).toNat : Nat) : Int) = ((((cn (l.drop 4) 0 * 16777216) + cn (l.drop 4) 1 * 65536) + cn (l.drop 4) 2 * 256 : Nat) : Int) from uB ((cn (l.drop 4) 0 * 16777216) + cn (l.drop 4) 1 * 65536) (cn (l.drop 4) 2 * 256) 16 (by have := pA (l.drop 4) 2; omega) (by omega) (by have := pA (l.drop 4) 0; have := pA (l.drop 4) 1; have := pA (l.drop 4) 2; have := pA (l.drop 4) 3; omega)) (ai (show IntKind.i64.wrap (((cn (l.drop 4) 2 : Nat) : Int) * 2 ^ min (8 : Int).toNat IntKind.i64.bits) = ((cn (l.drop 4) 2 * 256 : Nat) : Int) from TH (pA (l.drop 4) 2)) (ai (show IntKind.i64.wrap ((cn (l.drop 4) 2 : Nat) : Int) = ((cn (l.drop 4) 2 : Nat) : Int) from py (by have := pA (l.drop 4) 2; omega)) (ai (show (0 : Int) <= 2 /\ (2 : Int) < (ofL (l.drop 4)).size /\ ((ofL (l.drop 4))[(2 : Int).toNat]?.getD 0).toNat = cn (l.drop 4) 2 from tR (l.drop 4) 2 (by have h4 : 4 <= (l.drop 4).length := h4; omega)) (ai (show IntKind.i64.wrap (((BitVec.ofInt 64 ((cn (l.drop 4) 0 * 16777216 : Nat) : Int) ||| BitVec.ofInt 64 ((cn (l.drop 4) 1 * 65536 : Nat) : Int)).toNat : Nat) : Int) = (((cn (l.drop 4) 0 * 16777216) + cn (l.drop 4) 1 * 65536 : Nat) : Int) from uB (cn (l.drop 4) 0 * 16777216) (cn (l.drop 4) 1 * 65536) 24 (by have := pA (l.drop 4) 1; omega) (by omega) (by have := pA (l.drop 4) 0; have := pA (l.drop 4) 1; have := pA (l.drop 4) 2; have := pA (l.drop 4) 3; omega)) (ai (show IntKind.i64.wrap (((cn (l.drop 4) 1 : Nat) : Int) * 2 ^ min (16 : Int).toNat IntKind.i64.bits) = ((cn (l.drop 4) 1 * 65536 : Nat) : Int) from PQ (pA (l.drop 4) 1)) (ai (show IntKind.i64.wrap ((cn (l.drop 4) 1 : Nat) : Int) = ((cn (l.drop 4) 1 : Nat) : Int) from py (by have := pA (l.drop 4) 1; omega)) (ai (show (0 : Int) <= 1 /\ (1 : Int) < (ofL (l.drop 4)).size /\ ((ofL (l.drop 4))[(1 : Int).toNat]?.getD 0).toNat = cn (l.drop 4) 1 from tR (l.drop 4) 1 (by have h4 : 4 <= (l.drop 4).length := h4; omega)) (ai (show IntKind.i64.wrap (((cn (l.drop 4) 0 : Nat) : Int) * 2 ^ min (24 : Int).toNat IntKind.i64.bits) = ((cn (l.drop 4) 0 * 16777216 : Nat) : Int) from PY (pA (l.drop 4) 0)) (ai (show IntKind.i64.wrap ((cn (l.drop 4) 0 : Nat) : Int) = ((cn (l.drop 4) 0 : Nat) : Int) from py (by have := pA (l.drop 4) 0; omega)) (ai (show (0 : Int) <= 0 /\ (0 : Int) < (ofL (l.drop 4)).size /\ ((ofL (l.drop 4))[(0 : Int).toNat]?.getD 0).toNat = cn (l.drop 4) 0 from tR (l.drop 4) 0 (by have h4 : 4 <= (l.drop 4).length := h4; omega)) (ai (show decide ((((ofL (l.drop 4)).size : Nat) : Int) < 4) = false from decide_eq_false (by show ¬ (((l.drop 4).length : Nat) : Int) < 4; omega))
   (Oz hn hm).down))))))))))))))
def Uj (l : LU0) : Nat × Ora := (37, { ch := 1, hi := fun _ => ((cn (l.drop 4) 0 * 16777216) + cn (l.drop 4) 1 * 65536) + cn (l.drop 4) 2 * 256 })
def Vx (l : LU0) : Nat × Ora := (32, { ch := 1, hi := fun _ => (cn (l.drop 4) 0 * 16777216) + cn (l.drop 4) 1 * 65536 })
def Ub (l : LU0) : Nat × Ora := (27, { ch := 1, hi := fun _ => cn (l.drop 4) 0 * 16777216 })
def T7 (l : LU0) : Nat × Ora := (31, { ch := 1, hi := fun _ => cn (l.drop 4) 1 * 65536 })
def VX (l : LU0) : Nat × Ora := (36, { ch := 1, hi := fun _ => cn (l.drop 4) 2 * 256 })
abbrev Iq := (ofL mgW).toList == (ofL mgW).toList
def HS (l : LU0) : LO0 := [(3, wF), (6, rO 5 0), (8, wF), (12, rO 5 0), (17, wF), (19, wF), (23, wF), (25, rO 1 (cn (l.drop 4) 0)), (26, { ch := 1, hi := fun _ => cn (l.drop 4) 0 }), (Ub l), (29, rO 1 (cn (l.drop 4) 1)), (30, { ch := 1, hi := fun _ => cn (l.drop 4) 1 }), (T7 l), (Vx l), (34, rO 1 (cn (l.drop 4) 2)), (35, { ch := 1, hi := fun _ => cn (l.drop 4) 2 }), (VX l), (Uj l), (39, rO 1 (cn (l.drop 4) 3)), (40, { ch := 1, hi := fun _ => cn (l.drop 4) 3 }), (41, { ch := 1, hi := fun _ => c4 (l.drop 4) }), (44, wT)]
theorem Ze (l : LU0) (hs : l.length <= 9223372036854775807) (hn : 4 <= l.length) (hm : l.take 4 = mgW) (h4 : 4 <= (l.drop 4).length) (hN : 64 < c4 (l.drop 4)) : Gives prog 12 [.t (.v (.string (ofL mgW))), .t (.v (.string (ofL l)))] (vi0 2) :=
 uI ((HS l) ++ [(47, wT)]) (ai (show decide (((c4 (l.drop 4) : Nat) : Int) > 64) = true from decide_eq_true (by omega)) (ai (show Iq = true from xv _) (ai (show IntKind.i64.wrap (((BitVec.ofInt 64 ((((cn (l.drop 4) 0 * 16777216) + cn (l.drop 4) 1 * 65536) + cn (l.drop 4) 2 * 256 : Nat) : Int) ||| BitVec.ofInt 64 ((cn (l.drop 4) 3 : Nat) : Int)).toNat : Nat) : Int) = ((c4 (l.drop 4) : Nat) : Int) from uB (((cn (l.drop 4) 0 * 16777216) + cn (l.drop 4) 1 * 65536) + cn (l.drop 4) 2 * 256) (cn (l.drop 4) 3) 8 (by have := pA (l.drop 4) 3; omega) (by omega) (by have := pA (l.drop 4) 0; have := pA (l.drop 4) 1; have := pA (l.drop 4) 2; have := pA (l.drop 4) 3; omega))
   (Nt hs hn hm h4).down)))
def Oi (l : LU0) : LO0 := [(47, wF), (49, { ch := 1, hi := fun _ => 32 * c4 (l.drop 4) }), (50, { ch := 1, hi := fun _ => 4 + 32 * c4 (l.drop 4) })]
theorem Yr (l : LU0) (hs : l.length <= 9223372036854775807) (hn : 4 <= l.length) (hm : l.take 4 = mgW) (h4 : 4 <= (l.drop 4).length) (hN : c4 (l.drop 4) <= 64) (hx : l.length - 4 = 4 + 32 * c4 (l.drop 4)) : Gives prog 12 [.t (.v (.string (ofL mgW))), .t (.v (.string (ofL l)))] (vi0 0) :=
 uI ((HS l) ++ (Oi l) ++ [(65, wF)]) (ai (show (IntKind.i64.wrap ((((ofL l).size : Nat) : Int) - 4) != ((4 + 32 * c4 (l.drop 4) : Nat) : Int)) = false from by
    have h1 : IntKind.i64.wrap ((((ofL l).size : Nat) : Int) - 4) = ((l.length : Nat) : Int) - 4 := by
     show IntKind.i64.wrap (((l.length : Nat) : Int) - 4) = _
     rw [pN]; omega
    rw [h1]
    exact vt (by omega)) (ai (show IntKind.i64.wrap (4 + ((32 * c4 (l.drop 4) : Nat) : Int)) = ((4 + 32 * c4 (l.drop 4) : Nat) : Int) from by
    rw [show 4 + ((32 * c4 (l.drop 4) : Nat) : Int) = ((4 + 32 * c4 (l.drop 4) : Nat) : Int) by omega]
    exact py (by omega)) (ai (show IntKind.i64.wrap (32 * ((c4 (l.drop 4) : Nat) : Int)) = ((32 * c4 (l.drop 4) : Nat) : Int) from by
    rw [show 32 * ((c4 (l.drop 4) : Nat) : Int) = ((32 * c4 (l.drop 4) : Nat) : Int) by omega]
    exact py (by omega)) (ai (show decide (((c4 (l.drop 4) : Nat) : Int) > 64) = false from decide_eq_false (by omega)) (ai (show Iq = true from xv _) (ai (show IntKind.i64.wrap (((BitVec.ofInt 64 ((((cn (l.drop 4) 0 * 16777216) + cn (l.drop 4) 1 * 65536) + cn (l.drop 4) 2 * 256 : Nat) : Int) ||| BitVec.ofInt 64 ((cn (l.drop 4) 3 : Nat) : Int)).toNat : Nat) : Int) = ((c4 (l.drop 4) : Nat) : Int) from uB (((cn (l.drop 4) 0 * 16777216) + cn (l.drop 4) 1 * 65536) + cn (l.drop 4) 2 * 256) (cn (l.drop 4) 3) 8 (by have := pA (l.drop 4) 3; omega) (by omega) (by have := pA (l.drop 4) 0; have := pA (l.drop 4) 1; have := pA (l.drop 4) 2; have := pA (l.drop 4) 3; omega))
   (Nt hs hn hm h4).down))))))
theorem Y6 (l : LU0) (hs : l.length <= 9223372036854775807) (hn : 4 <= l.length) (hm : l.take 4 = mgW) (h4 : 4 <= (l.drop 4).length) (hN : c4 (l.drop 4) <= 64) (hx : l.length - 4 ≠ 4 + 32 * c4 (l.drop 4)) : Gives prog 12 [.t (.v (.string (ofL mgW))), .t (.v (.string (ofL l)))] (vi0 3) :=
 uI ((HS l) ++ (Oi l) ++ [(65, wT)]) (ai (show (IntKind.i64.wrap ((((ofL l).size : Nat) : Int) - 4) != ((4 + 32 * c4 (l.drop 4) : Nat) : Int)) = true from by
    have h1 : IntKind.i64.wrap ((((ofL l).size : Nat) : Int) - 4) = ((l.length : Nat) : Int) - 4 := by
     show IntKind.i64.wrap (((l.length : Nat) : Int) - 4) = _
     rw [pN]; omega
    rw [h1]
    exact bne_iff_ne.2 (by omega)) (ai (show IntKind.i64.wrap (4 + ((32 * c4 (l.drop 4) : Nat) : Int)) = ((4 + 32 * c4 (l.drop 4) : Nat) : Int) from by
    rw [show 4 + ((32 * c4 (l.drop 4) : Nat) : Int) = ((4 + 32 * c4 (l.drop 4) : Nat) : Int) by omega]
    exact py (by omega)) (ai (show IntKind.i64.wrap (32 * ((c4 (l.drop 4) : Nat) : Int)) = ((32 * c4 (l.drop 4) : Nat) : Int) from by
    rw [show 32 * ((c4 (l.drop 4) : Nat) : Int) = ((32 * c4 (l.drop 4) : Nat) : Int) by omega]
    exact py (by omega)) (ai (show decide (((c4 (l.drop 4) : Nat) : Int) > 64) = false from decide_eq_false (by omega)) (ai (show Iq = true from xv _) (ai (show IntKind.i64.wrap (((BitVec.ofInt 64 ((((cn (l.drop 4) 0 * 16777216) + cn (l.drop 4) 1 * 65536) + cn (l.drop 4) 2 * 256 : Nat) : Int) ||| BitVec.ofInt 64 ((cn (l.drop 4) 3 : Nat) : Int)).toNat : Nat) : Int) = ((c4 (l.drop 4) : Nat) : Int) from uB (((cn (l.drop 4) 0 * 16777216) + cn (l.drop 4) 1 * 65536) + cn (l.drop 4) 2 * 256) (cn (l.drop 4) 3) 8 (by have := pA (l.drop 4) 3; omega) (by omega) (by have := pA (l.drop 4) 0; have := pA (l.drop 4) 1; have := pA (l.drop 4) 2; have := pA (l.drop 4) 3; omega))
   (Nt hs hn hm h4).down))))))
def shP (l : LU0) : Int := if l.take 4 = mgP then (if l.length = 628 then 0 else 3) else 80
def shW (l : LU0) : Int := if l.take 4 = mgW then (if (l.drop 4).length < 4 then 3 else if 64 < c4 (l.drop 4) then 2 else if l.length - 4 = 4 + 32 * c4 (l.drop 4) then 0 else 3) else 80
theorem rN {l m : LU0} (h : l.take 4 = m) (hm : m.length = 4) : 4 <= l.length := by
 have := congrArg List.length h
 rw [List.length_take] at this
 omega
theorem Ce (l : LU0) (hs : l.length <= 9223372036854775807) : Gives prog 12 [.t (.v (.string (ofL mgP))), .t (.v (.string (ofL l)))] (vi0 (shP l)) := by
 unfold shP
 by_cases hm : l.take 4 = mgP
 ·have hn := rN hm rfl
  rw [if_pos hm]
  by_cases hx : l.length = 628
  ·rw [if_pos hx]; exact aad l hs hn hm hx
  ·rw [if_neg hx]; exact YU l hs hn hm hx
 ·rw [if_neg hm]
  by_cases hn : l.length < 4
  ·exact YV l hs hn
  ·exact ZZ l hs (by omega) hm
theorem CE (l : LU0) (hs : l.length <= 9223372036854775807) : Gives prog 12 [.t (.v (.string (ofL mgW))), .t (.v (.string (ofL l)))] (vi0 (shW l)) := by
 unfold shW
 by_cases hm : l.take 4 = mgW
 ·have hn := rN hm rfl
  rw [if_pos hm]
  by_cases h4 : (l.drop 4).length < 4
  ·rw [if_pos h4]; exact abb l hs hn hm h4
  ·rw [if_neg h4]
   by_cases hN : 64 < c4 (l.drop 4)
   ·rw [if_pos hN]; exact Ze l hs hn hm (by omega) hN
   ·rw [if_neg hN]
    by_cases hx : l.length - 4 = 4 + 32 * c4 (l.drop 4)
    ·rw [if_pos hx]; exact Yr l hs hn hm (by omega) (by omega) hx
    ·rw [if_neg hx]; exact Y6 l hs hn hm (by omega) (by omega) hx
 ·rw [if_neg hm]
  by_cases hn : l.length < 4
  ·exact aaa l hs hn
  ·exact Xk l hs (by omega) hm
end Go.Proofs.YtokjhbmmdmeafaaGreat
