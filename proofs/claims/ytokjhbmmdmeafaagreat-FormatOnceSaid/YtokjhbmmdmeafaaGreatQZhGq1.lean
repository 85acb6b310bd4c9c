/- Pruned: ZhGq1. -/
import Derived.Test.YtokjhbmmdmeafaaGreatQGf
import Derived.Test.YtokjhbmmdmeafaaGreatQGl
import Derived.Test.YtokjhbmmdmeafaaGreatQGa
set_option linter.unusedSimpArgs false
set_option linter.unusedVariables false
namespace Go.Proofs.YtokjhbmmdmeafaaGreat
open Go.Ev Go.RowKit
open Tryz
abbrev TN (v : Value) : Prop := true = true /\ true = true /\ [v] = [v]
abbrev r9 (n : Nat) : Prop := true = true /\ n = n
abbrev Dv (t : Nat) (l : List Ch) : Prop := t = t /\ flat l = flat l
abbrev AX (v : Value) : Prop := v = v
def wV (c : LU0) : Int := if c4 c = 4294967295 then -1 else ((c4 c : Nat) : Int)
def noE (c : LU0) : Int := 0
theorem B6 (l : LU0) (i : Nat) (h : i < 4) : cn (l.take 4) i = cn l i := by
 unfold cn
 rw [List.getD_eq_getElem?_getD, List.getD_eq_getElem?_getD, List.getElem?_take, if_pos h]
theorem Ln (l : LU0) : c4 (l.take 4) = c4 l := by
 unfold c4
 rw [B6 l 0 (by omega), B6 l 1 (by omega), B6 l 2 (by omega), B6 l 3 (by omega)]
theorem Ba {l : LU0} (h : c4 l = 4294967295) : wV (l.take 4) = -1 := by
 unfold wV; rw [Ln, if_pos h]
theorem AU {l : LU0} (h : c4 l ≠ 4294967295) : wV (l.take 4) = ((c4 l : Nat) : Int) := by
 unfold wV; rw [Ln, if_neg h]
structure QH where
 N : Nat
 pub : Int
 vs : Int
 u : Int
def zcL : List Ch := [.c (.slice none 0 0), ci0 0, ci0 0]
def g0L : List Ch := List.replicate 20 (.c (.int .u64 0)) ++ List.replicate 3 (ci0 0)
def gt0 : GT := ⟨0, 0, 0, 0, 0, 0, 0, 0⟩
theorem LJ : flat g0L = flat (gP gt0) := by kernel_rfl
def qOz (h : QH) (sb : LU0) (e : Int) : LState := { n := 98, sl := [(2, .p 0 0), (4, .p 23 0), (7, .v (.int .u32 h.u)), (8, .p 244 0), (31, vi0 (h.N : Int)), (32, vi0 0)], hp := [(0, .own zcL 49), (23, .own [.c (.string (ofL sb)), ci0 e] 85), (244, .own [.c (.slice none 0 0), ci0 h.pub, ci0 h.vs] 49)] }
def qEz (h : QH) (sb : LU0) (e : Int) : LState := { n := 98, sl := [(2, .p 0 0), (4, .p 23 0), (7, .v (.int .u32 h.u)), (8, .p 244 0)], hp := [(0, .own zcL 49), (23, .own [.c (.string (ofL sb)), ci0 e] 85), (244, .own [.c (.slice none 0 0), ci0 h.pub, ci0 h.vs] 49)] }
def qAz (h : QH) (g : GT) (sb : LU0) (e j : Int) : LState := { n := 98, sl := [(2, .p 0 0), (4, .p 23 0), (7, .v (.int .u32 h.u)), (8, .p 244 0), (9, .p 254 0), (31, vi0 (h.N : Int)), (32, vi0 0), (44, .ag [.p 254 0, .p 254 4, .p 254 8, .p 254 12, .p 254 16]), (45, vi0 j)], hp := [(0, .own zcL 49), (23, .own [.c (.string (ofL sb)), ci0 e] 85), (244, .own [.c (.slice none 0 0), ci0 h.pub, ci0 h.vs] 49), (254, .own (gP g) 94)] }
def qBz (h : QH) (g : GT) (sb : LU0) (e : Int) : LState := { n := 98, sl := [(2, .p 0 0), (4, .p 23 0), (7, .v (.int .u32 h.u)), (8, .p 244 0), (9, .p 254 0), (31, vi0 (h.N : Int)), (32, vi0 0)], hp := [(0, .own zcL 49), (23, .own [.c (.string (ofL sb)), ci0 e] 85), (244, .own [.c (.slice none 0 0), ci0 h.pub, ci0 h.vs] 49), (254, .own (gP g) 94)] }
def qCz (h : QH) (g : GT) (sb : LU0) (e j : Int) : LState := { n := 98, sl := [(2, .p 0 0), (4, .p 23 0), (7, .v (.int .u32 h.u)), (8, .p 244 0), (9, .p 254 0), (31, vi0 (h.N : Int)), (32, vi0 0), (53, vi0 j)], hp := [(0, .own zcL 49), (23, .own [.c (.string (ofL sb)), ci0 e] 85), (244, .own [.c (.slice none 0 0), ci0 h.pub, ci0 h.vs] 49), (254, .own (gP g) 94)] }
def qJz (h : QH) (sb : LU0) : LState := { n := 98, sl := [(2, .p 0 0), (4, .p 23 0), (7, .v (.int .u32 h.u)), (8, .p 244 0), (9, .p 254 0), (31, vi0 (h.N : Int)), (32, vi0 0), (44, .ag [.p 254 0, .p 254 4, .p 254 8, .p 254 12, .p 254 16]), (45, vi0 0)], hp := [(0, .own zcL 49), (23, .own [.c (.string (ofL sb)), ci0 0] 85), (244, .own [.c (.slice none 0 0), ci0 h.pub, ci0 h.vs] 49), (254, .own g0L 94)] }
def qOr (h : QH) (C : List Value) (i : Nat) (sb : LU0) (e : Int) : LState := { n := 98, sl := [(2, .p 0 0), (4, .p 23 0), (7, .v (.int .u32 h.u)), (8, .p 244 0), (31, vi0 (h.N : Int)), (32, vi0 (i : Int))], hp := [(0, .own zcL 49), (23, .own [.c (.string (ofL sb)), ci0 e] 85), (244, .own [.sx 24 i, ci0 h.pub, ci0 h.vs] 49), (24, .gr [.l C] 94 23)] }
def qEr (h : QH) (C : List Value) (i : Nat) (sb : LU0) (e : Int) : LState := { n := 98, sl := [(2, .p 0 0), (4, .p 23 0), (7, .v (.int .u32 h.u)), (8, .p 244 0)], hp := [(0, .own zcL 49), (23, .own [.c (.string (ofL sb)), ci0 e] 85), (244, .own [.sx 24 i, ci0 h.pub, ci0 h.vs] 49), (24, .gr [.l C] 94 23)] }
def qAr (h : QH) (C : List Value) (i : Nat) (g : GT) (sb : LU0) (e j : Int) : LState := { n := 98, sl := [(2, .p 0 0), (4, .p 23 0), (7, .v (.int .u32 h.u)), (8, .p 244 0), (9, .p 254 0), (31, vi0 (h.N : Int)), (32, vi0 (i : Int)), (44, .ag [.p 254 0, .p 254 4, .p 254 8, .p 254 12, .p 254 16]), (45, vi0 j)], hp := [(0, .own zcL 49), (23, .own [.c (.string (ofL sb)), ci0 e] 85), (244, .own [.sx 24 i, ci0 h.pub, ci0 h.vs] 49), (254, .own (gP g) 94), (24, .gr [.l C] 94 23)] }
def qBr (h : QH) (C : List Value) (i : Nat) (g : GT) (sb : LU0) (e : Int) : LState := { n := 98, sl := [(2, .p 0 0), (4, .p 23 0), (7, .v (.int .u32 h.u)), (8, .p 244 0), (9, .p 254 0), (31, vi0 (h.N : Int)), (32, vi0 (i : Int))], hp := [(0, .own zcL 49), (23, .own [.c (.string (ofL sb)), ci0 e] 85), (244, .own [.sx 24 i, ci0 h.pub, ci0 h.vs] 49), (254, .own (gP g) 94), (24, .gr [.l C] 94 23)] }
def qCr (h : QH) (C : List Value) (i : Nat) (g : GT) (sb : LU0) (e j : Int) : LState := { n := 98, sl := [(2, .p 0 0), (4, .p 23 0), (7, .v (.int .u32 h.u)), (8, .p 244 0), (9, .p 254 0), (31, vi0 (h.N : Int)), (32, vi0 (i : Int)), (53, vi0 j)], hp := [(0, .own zcL 49), (23, .own [.c (.string (ofL sb)), ci0 e] 85), (244, .own [.sx 24 i, ci0 h.pub, ci0 h.vs] 49), (254, .own (gP g) 94), (24, .gr [.l C] 94 23)] }
def qJr (h : QH) (C : List Value) (i : Nat) (sb : LU0) : LState := { n := 98, sl := [(2, .p 0 0), (4, .p 23 0), (7, .v (.int .u32 h.u)), (8, .p 244 0), (9, .p 254 0), (31, vi0 (h.N : Int)), (32, vi0 (i : Int)), (44, .ag [.p 254 0, .p 254 4, .p 254 8, .p 254 12, .p 254 16]), (45, vi0 0)], hp := [(0, .own zcL 49), (23, .own [.c (.string (ofL sb)), ci0 0] 85), (244, .own [.sx 24 i, ci0 h.pub, ci0 h.vs] 49), (254, .own g0L 94), (24, .gr [.l C] 94 23)] }
def z4G : List Ch := List.replicate 4 (.c (.int .u64 0))
theorem qR {os : Nat -> Ora} {c : Code} {I J : LState} {ex : Ex} {ob : Prop} (h : vK prog (pN _) [ui] 3 os 0 false c 262 I J [] = some (ex, ob)) (hob : ob) : Sound prog 0 false c I.aa ex J.aa := qT (P := prog) (X := pN _) (env := [ui]) ⟨uE, tt0⟩ h hob
theorem qFz (h : QH) (j k : Int) (hk : Value.int .i64 (IntKind.i64.wrap (j + 1)) = Value.int .i64 k) {sb : LU0} {e : Int} {a b : List Ch} (hf : flat a = flat b) : ((r9 0) /\ (r9 0) /\ (AX (.int .u32 h.u)) /\ (r9 0) /\ (r9 0) /\ (AX (.int .i64 (h.N : Int))) /\ (AX (.int .i64 0)) /\ ((r9 0) /\ (r9 4) /\ (r9 8) /\ (r9 12) /\ (r9 16) /\ True) /\ (Value.int .i64 (IntKind.i64.wrap (j + 1))) = (Value.int .i64 k) /\ True) /\ ((Dv 49 zcL) /\ (Dv 85 [.c (.string (ofL sb)), ci0 e]) /\ (Dv 49 [.c (.slice none 0 0), ci0 h.pub, ci0 h.vs]) /\ (94 = 94 /\ flat a = flat b) /\ True) :=
 ⟨⟨rr0, rr0, rfl, rr0, rr0, rfl, rfl, ⟨rr0, rr0, rr0, rr0, rr0, tt0⟩, hk, tt0⟩, ⟨rr0, rr0, rr0, ⟨rfl, hf⟩, tt0⟩⟩
theorem qFr (h : QH) (C : List Value) (i : Nat) (j k : Int) (hk : Value.int .i64 (IntKind.i64.wrap (j + 1)) = Value.int .i64 k) {sb : LU0} {e : Int} {a b : List Ch} (hf : flat a = flat b) : ((r9 0) /\ (r9 0) /\ (AX (.int .u32 h.u)) /\ (r9 0) /\ (r9 0) /\ (AX (.int .i64 (h.N : Int))) /\ (AX (.int .i64 (i : Int))) /\ ((r9 0) /\ (r9 4) /\ (r9 8) /\ (r9 12) /\ (r9 16) /\ True) /\ (Value.int .i64 (IntKind.i64.wrap (j + 1))) = (Value.int .i64 k) /\ True) /\ ((Dv 49 zcL) /\ (Dv 85 [.c (.string (ofL sb)), ci0 e]) /\ (49 = 49 /\ (r9 i) /\ (TN (.int .i64 h.pub)) /\ (TN (.int .i64 h.vs)) /\ True) /\ (94 = 94 /\ flat a = flat b) /\ ((94 = 94 /\ 23 = 23) /\ flat [.l C] = flat [.l C]) /\ True) :=
 ⟨⟨rr0, rr0, rfl, rr0, rr0, rfl, rfl, ⟨rr0, rr0, rr0, rr0, rr0, tt0⟩, hk, tt0⟩, ⟨rr0, rr0, ⟨rfl, rr0, r30, r30, tt0⟩, ⟨rfl, hf⟩, ⟨rr0, rfl⟩, tt0⟩⟩
abbrev qa (a : AA) (e : Ex) (b : AA) : Prop := Sound prog 0 false (pS f9 1) a e b
theorem abP (h : QH) (g : GT) (sb : LU0) (e : Int) (hl : 32 <= sb.length) (h0 : (gfE (sb.take 32)) = 0) : qa (qAz h g sb 0 0).aa .normal (qAz h { g with q0 := (gfV (sb.take 32)) } (sb.drop 32) (gfE (sb.take 32)) 1).aa :=
 qR (os := oL [(281, rO 5 0), (295, rO 5 0), (313, wF)]) (by kernel_rfl) (ai (qFz h 0 1 rfl (sb := (sb.drop 32)) (e := (gfE (sb.take 32))) (a := ins (gP g) 0 1 ([.n 4 (gfV (sb.take 32))])) (b := gP { g with q0 := (gfV (sb.take 32)) }) (by kernel_rfl)) (ai (eqz h0) (ai (pK hl) (ai (pK hl) tt0))))
theorem aeo (h : QH) (g : GT) (sb : LU0) (e : Int) (hl : 32 <= sb.length) (h0 : (gfE (sb.take 32)) ≠ 0) : qa (qAz h g sb 0 0).aa .normal (qAz h { g with q0 := (gfV (sb.take 32)) } (sb.drop 32) (gfE (sb.take 32)) 1).aa :=
 qR (os := oL [(281, rO 5 0), (295, rO 5 0), (313, wT)]) (by kernel_rfl) (ai (qFz h 0 1 rfl (sb := (sb.drop 32)) (e := (gfE (sb.take 32))) (a := ins (gP g) 0 1 (z4G)) (b := gP { g with q0 := (gfV (sb.take 32)) }) (by rw [rq h0]; kernel_rfl)) (ai (nez h0) (ai (pK hl) (ai (pK hl) tt0))))
theorem ac1 (h : QH) (g : GT) (sb : LU0) (e : Int) (h0 : e ≠ 0) : qa (qAz h g sb e 0).aa .normal (qAz h { g with q0 := 0 } sb e 1).aa :=
 qR (os := oL [(274, wT)]) (by kernel_rfl) (ai (qFz h 0 1 rfl (sb := sb) (e := e) (a := ins (gP g) 0 1 (z4G)) (b := gP { g with q0 := 0 }) (by kernel_rfl)) (ai (nez h0) tt0))
theorem agA (h : QH) (g : GT) (st : Int × LU0) (hl : st.1 = 0 -> 32 <= st.2.length) : qa (qAz h g st.2 st.1 0).aa .normal (qAz h { g with q0 := rvl 32 gfV 0 st } (rst 32 gfE st).2 (rst 32 gfE st).1 1).aa := by
 obtain ⟨e, sb⟩ := st
 by_cases h0 : e = 0
 ·subst h0
  by_cases h1 : gfE (sb.take 32) = 0
  ·exact abP h g sb 0 (hl rfl) h1
  ·exact aeo h g sb 0 (hl rfl) h1
 ·rw [show rst 32 gfE (e, sb) = (e, sb) from if_neg h0, show rvl 32 gfV 0 (e, sb) = 0 from if_neg h0]
  exact ac1 h g sb e h0
theorem aep (h : QH) (g : GT) (sb : LU0) (e : Int) (hl : 32 <= sb.length) (h0 : (gfE (sb.take 32)) = 0) : qa (qAz h g sb 0 1).aa .normal (qAz h { g with q1 := (gfV (sb.take 32)) } (sb.drop 32) (gfE (sb.take 32)) 2).aa :=
 qR (os := oL [(281, rO 5 0), (295, rO 5 0), (313, wF)]) (by kernel_rfl) (ai (qFz h 1 2 rfl (sb := (sb.drop 32)) (e := (gfE (sb.take 32))) (a := ins (gP g) 1 1 ([.n 4 (gfV (sb.take 32))])) (b := gP { g with q1 := (gfV (sb.take 32)) }) (by kernel_rfl)) (ai (eqz h0) (ai (pK hl) (ai (pK hl) tt0))))
theorem ad9 (h : QH) (g : GT) (sb : LU0) (e : Int) (hl : 32 <= sb.length) (h0 : (gfE (sb.take 32)) ≠ 0) : qa (qAz h g sb 0 1).aa .normal (qAz h { g with q1 := (gfV (sb.take 32)) } (sb.drop 32) (gfE (sb.take 32)) 2).aa :=
 qR (os := oL [(281, rO 5 0), (295, rO 5 0), (313, wT)]) (by kernel_rfl) (ai (qFz h 1 2 rfl (sb := (sb.drop 32)) (e := (gfE (sb.take 32))) (a := ins (gP g) 1 1 (z4G)) (b := gP { g with q1 := (gfV (sb.take 32)) }) (by rw [rq h0]; kernel_rfl)) (ai (nez h0) (ai (pK hl) (ai (pK hl) tt0))))
theorem ad8 (h : QH) (g : GT) (sb : LU0) (e : Int) (h0 : e ≠ 0) : qa (qAz h g sb e 1).aa .normal (qAz h { g with q1 := 0 } sb e 2).aa :=
 qR (os := oL [(274, wT)]) (by kernel_rfl) (ai (qFz h 1 2 rfl (sb := sb) (e := e) (a := ins (gP g) 1 1 (z4G)) (b := gP { g with q1 := 0 }) (by kernel_rfl)) (ai (nez h0) tt0))
theorem agB (h : QH) (g : GT) (st : Int × LU0) (hl : st.1 = 0 -> 32 <= st.2.length) : qa (qAz h g st.2 st.1 1).aa .normal (qAz h { g with q1 := rvl 32 gfV 0 st } (rst 32 gfE st).2 (rst 32 gfE st).1 2).aa := by
 obtain ⟨e, sb⟩ := st
 by_cases h0 : e = 0
 ·subst h0
  by_cases h1 : gfE (sb.take 32) = 0
  ·exact aep h g sb 0 (hl rfl) h1
  ·exact ad9 h g sb 0 (hl rfl) h1
 ·rw [show rst 32 gfE (e, sb) = (e, sb) from if_neg h0, show rvl 32 gfV 0 (e, sb) = 0 from if_neg h0]
  exact ad8 h g sb e h0
theorem abF (h : QH) (g : GT) (sb : LU0) (e : Int) (hl : 32 <= sb.length) (h0 : (gfE (sb.take 32)) = 0) : qa (qAz h g sb 0 2).aa .normal (qAz h { g with q2 := (gfV (sb.take 32)) } (sb.drop 32) (gfE (sb.take 32)) 3).aa :=
 qR (os := oL [(281, rO 5 0), (295, rO 5 0), (313, wF)]) (by kernel_rfl) (ai (qFz h 2 3 rfl (sb := (sb.drop 32)) (e := (gfE (sb.take 32))) (a := ins (gP g) 2 1 ([.n 4 (gfV (sb.take 32))])) (b := gP { g with q2 := (gfV (sb.take 32)) }) (by kernel_rfl)) (ai (eqz h0) (ai (pK hl) (ai (pK hl) tt0))))
theorem aeJ (h : QH) (g : GT) (sb : LU0) (e : Int) (hl : 32 <= sb.length) (h0 : (gfE (sb.take 32)) ≠ 0) : qa (qAz h g sb 0 2).aa .normal (qAz h { g with q2 := (gfV (sb.take 32)) } (sb.drop 32) (gfE (sb.take 32)) 3).aa :=
 qR (os := oL [(281, rO 5 0), (295, rO 5 0), (313, wT)]) (by kernel_rfl) (ai (qFz h 2 3 rfl (sb := (sb.drop 32)) (e := (gfE (sb.take 32))) (a := ins (gP g) 2 1 (z4G)) (b := gP { g with q2 := (gfV (sb.take 32)) }) (by rw [rq h0]; kernel_rfl)) (ai (nez h0) (ai (pK hl) (ai (pK hl) tt0))))
theorem ads (h : QH) (g : GT) (sb : LU0) (e : Int) (h0 : e ≠ 0) : qa (qAz h g sb e 2).aa .normal (qAz h { g with q2 := 0 } sb e 3).aa :=
 qR (os := oL [(274, wT)]) (by kernel_rfl) (ai (qFz h 2 3 rfl (sb := sb) (e := e) (a := ins (gP g) 2 1 (z4G)) (b := gP { g with q2 := 0 }) (by kernel_rfl)) (ai (nez h0) tt0))
theorem aga (h : QH) (g : GT) (st : Int × LU0) (hl : st.1 = 0 -> 32 <= st.2.length) : qa (qAz h g st.2 st.1 2).aa .normal (qAz h { g with q2 := rvl 32 gfV 0 st } (rst 32 gfE st).2 (rst 32 gfE st).1 3).aa := by
 obtain ⟨e, sb⟩ := st
 by_cases h0 : e = 0
 ·subst h0
  by_cases h1 : gfE (sb.take 32) = 0
  ·exact abF h g sb 0 (hl rfl) h1
  ·exact aeJ h g sb 0 (hl rfl) h1
 ·rw [show rst 32 gfE (e, sb) = (e, sb) from if_neg h0, show rvl 32 gfV 0 (e, sb) = 0 from if_neg h0]
  exact ads h g sb e h0
theorem adQ (h : QH) (g : GT) (sb : LU0) (e : Int) (hl : 32 <= sb.length) (h0 : (gfE (sb.take 32)) = 0) : qa (qAz h g sb 0 3).aa .normal (qAz h { g with q3 := (gfV (sb.take 32)) } (sb.drop 32) (gfE (sb.take 32)) 4).aa :=
 qR (os := oL [(281, rO 5 0), (295, rO 5 0), (313, wF)]) (by kernel_rfl) (ai (qFz h 3 4 rfl (sb := (sb.drop 32)) (e := (gfE (sb.take 32))) (a := ins (gP g) 3 1 ([.n 4 (gfV (sb.take 32))])) (b := gP { g with q3 := (gfV (sb.take 32)) }) (by kernel_rfl)) (ai (eqz h0) (ai (pK hl) (ai (pK hl) tt0))))
theorem ac4 (h : QH) (g : GT) (sb : LU0) (e : Int) (hl : 32 <= sb.length) (h0 : (gfE (sb.take 32)) ≠ 0) : qa (qAz h g sb 0 3).aa .normal (qAz h { g with q3 := (gfV (sb.take 32)) } (sb.drop 32) (gfE (sb.take 32)) 4).aa :=
 qR (os := oL [(281, rO 5 0), (295, rO 5 0), (313, wT)]) (by kernel_rfl) (ai (qFz h 3 4 rfl (sb := (sb.drop 32)) (e := (gfE (sb.take 32))) (a := ins (gP g) 3 1 (z4G)) (b := gP { g with q3 := (gfV (sb.take 32)) }) (by rw [rq h0]; kernel_rfl)) (ai (nez h0) (ai (pK hl) (ai (pK hl) tt0))))
theorem abO (h : QH) (g : GT) (sb : LU0) (e : Int) (h0 : e ≠ 0) : qa (qAz h g sb e 3).aa .normal (qAz h { g with q3 := 0 } sb e 4).aa :=
 qR (os := oL [(274, wT)]) (by kernel_rfl) (ai (qFz h 3 4 rfl (sb := sb) (e := e) (a := ins (gP g) 3 1 (z4G)) (b := gP { g with q3 := 0 }) (by kernel_rfl)) (ai (nez h0) tt0))
theorem afp (h : QH) (g : GT) (st : Int × LU0) (hl : st.1 = 0 -> 32 <= st.2.length) : qa (qAz h g st.2 st.1 3).aa .normal (qAz h { g with q3 := rvl 32 gfV 0 st } (rst 32 gfE st).2 (rst 32 gfE st).1 4).aa := by
 obtain ⟨e, sb⟩ := st
 by_cases h0 : e = 0
 ·subst h0
  by_cases h1 : gfE (sb.take 32) = 0
  ·exact adQ h g sb 0 (hl rfl) h1
  ·exact ac4 h g sb 0 (hl rfl) h1
 ·rw [show rst 32 gfE (e, sb) = (e, sb) from if_neg h0, show rvl 32 gfV 0 (e, sb) = 0 from if_neg h0]
  exact abO h g sb e h0
theorem adL (h : QH) (g : GT) (sb : LU0) (e : Int) (hl : 32 <= sb.length) (h0 : (gfE (sb.take 32)) = 0) : qa (qAz h g sb 0 4).aa .normal (qAz h { g with q4 := (gfV (sb.take 32)) } (sb.drop 32) (gfE (sb.take 32)) 5).aa :=
 qR (os := oL [(281, rO 5 0), (295, rO 5 0), (313, wF)]) (by kernel_rfl) (ai (qFz h 4 5 rfl (sb := (sb.drop 32)) (e := (gfE (sb.take 32))) (a := ins (gP g) 4 1 ([.n 4 (gfV (sb.take 32))])) (b := gP { g with q4 := (gfV (sb.take 32)) }) (by kernel_rfl)) (ai (eqz h0) (ai (pK hl) (ai (pK hl) tt0))))
theorem acH (h : QH) (g : GT) (sb : LU0) (e : Int) (hl : 32 <= sb.length) (h0 : (gfE (sb.take 32)) ≠ 0) : qa (qAz h g sb 0 4).aa .normal (qAz h { g with q4 := (gfV (sb.take 32)) } (sb.drop 32) (gfE (sb.take 32)) 5).aa :=
 qR (os := oL [(281, rO 5 0), (295, rO 5 0), (313, wT)]) (by kernel_rfl) (ai (qFz h 4 5 rfl (sb := (sb.drop 32)) (e := (gfE (sb.take 32))) (a := ins (gP g) 4 1 (z4G)) (b := gP { g with q4 := (gfV (sb.take 32)) }) (by rw [rq h0]; kernel_rfl)) (ai (nez h0) (ai (pK hl) (ai (pK hl) tt0))))
theorem adu (h : QH) (g : GT) (sb : LU0) (e : Int) (h0 : e ≠ 0) : qa (qAz h g sb e 4).aa .normal (qAz h { g with q4 := 0 } sb e 5).aa :=
 qR (os := oL [(274, wT)]) (by kernel_rfl) (ai (qFz h 4 5 rfl (sb := sb) (e := e) (a := ins (gP g) 4 1 (z4G)) (b := gP { g with q4 := 0 }) (by kernel_rfl)) (ai (nez h0) tt0))
theorem afP (h : QH) (g : GT) (st : Int × LU0) (hl : st.1 = 0 -> 32 <= st.2.length) : qa (qAz h g st.2 st.1 4).aa .normal (qAz h { g with q4 := rvl 32 gfV 0 st } (rst 32 gfE st).2 (rst 32 gfE st).1 5).aa := by
 obtain ⟨e, sb⟩ := st
 by_cases h0 : e = 0
 ·subst h0
  by_cases h1 : gfE (sb.take 32) = 0
  ·exact adL h g sb 0 (hl rfl) h1
  ·exact acH h g sb 0 (hl rfl) h1
 ·rw [show rst 32 gfE (e, sb) = (e, sb) from if_neg h0, show rvl 32 gfV 0 (e, sb) = 0 from if_neg h0]
  exact adu h g sb e h0
def Sj {sb : LU0} {m : Nat} (hm : c4 sb = m) (h4 : 4 <= sb.length) := PLift.up (ai (show decide (((m : Nat) : Int) > 4294967295) = false from decide_eq_false (by have := yX sb; omega)) (ai (cs4 h4) (ai (vQ hm) (ai (cw sb 3) (ai (cid 3 h4 (by decide)) (ai (vN sb) (ai (DX (qJ sb 2)) (ai (cw sb 2) (ai (cid 2 h4 (by decide)) (ai (vT sb) (ai (AF (qJ sb 1)) (ai (cw sb 1) (ai (cid 1 h4 (by decide)) (ai (A5 (qJ sb 0)) (ai (cw sb 0) (ai (cid 0 h4 (by decide)) (ai (clt h4) tt0)))))))))))))))))
def Bk (sb : LU0) (m : Nat) : LO0 := [(572, wF), (583, rO 1 (cn sb 0)), (584, tn (cn sb 0)), (585, tn (cn sb 0 * 16777216)), (590, rO 1 (cn sb 1)), (591, tn (cn sb 1)), (592, tn (cn sb 1 * 65536)), (593, tn (co1 sb)), (598, rO 1 (cn sb 2)), (599, tn (cn sb 2)), (600, tn (cn sb 2 * 256)), (601, tn (co2 sb)), (606, rO 1 (cn sb 3)), (607, tn (cn sb 3)), (608, tn (m)), (615, rO 5 0), (621, wF), (627, wF), (629, { ch := 1, hi := fun _ => m })]
def AK {sb : LU0} {m : Nat} (hm : c4 sb = m) (h4 : 4 <= sb.length) (h0 : m ≠ 4294967295) := PLift.up (ai (show IntKind.i64.wrap ((m : Nat) : Int) = ((m : Nat) : Int) from qc (by have := yX sb; omega)) (ai (show (((m : Nat) : Int) == 4294967295) = false from beq_eq_false_iff_ne.2 (by omega))
   (Sj hm h4).down))
theorem rt {c : Code} {I L : LState} {ex : Ex} {b : Prop} (o : LO0) (k : Nat) (sk hk : List Nat) (hb : b) (h : uW prog (pN _) [] 3 (oL o) 0 false c k I sk hk [] = some (ex, L, b) := by kernel_rfl) : Sound prog 0 false c I.aa ex L.aa := pR (P := prog) (X := pN _) (env := []) trivial h hb
abbrev qy (a : AA) (e : Ex) (b : AA) : Prop := Sound prog 0 false (pS f9 2) a e b
theorem aeh (h : QH) (g : GT) (sb : LU0) (e : Int) (m : Nat) (hm : c4 sb = m) (h4 : 4 <= sb.length) (h0 : m ≠ 4294967295) : qy (qCz h g sb 0 0).aa .normal (qCz h { g with w0 := ((m : Nat) : Int) } (sb.drop 4) 0 1).aa :=
 rt (Bk sb m) 554 [2, 4, 7, 8, 9, 31, 32, 53] [0, 23, 244, 254] (AK hm h4 h0).down
def AG (sb : LU0) (m : Nat) : LO0 := [(572, wF), (583, rO 1 (cn sb 0)), (584, tn (cn sb 0)), (585, tn (cn sb 0 * 16777216)), (590, rO 1 (cn sb 1)), (591, tn (cn sb 1)), (592, tn (cn sb 1 * 65536)), (593, tn (co1 sb)), (598, rO 1 (cn sb 2)), (599, tn (cn sb 2)), (600, tn (cn sb 2 * 256)), (601, tn (co2 sb)), (606, rO 1 (cn sb 3)), (607, tn (cn sb 3)), (608, tn (m)), (615, rO 5 0), (621, wF), (627, wT)]
def AE {sb : LU0} {m : Nat} (hm : c4 sb = m) (h4 : 4 <= sb.length) (h0 : m = 4294967295) := PLift.up (ai (show (((m : Nat) : Int) == 4294967295) = true from beq_iff_eq.2 (by omega))
   (Sj hm h4).down)
theorem abE (h : QH) (g : GT) (sb : LU0) (e : Int) (m : Nat) (hm : c4 sb = m) (h4 : 4 <= sb.length) (h0 : m = 4294967295) : qy (qCz h g sb 0 0).aa .normal (qCz h { g with w0 := (-1) } (sb.drop 4) 0 1).aa :=
 rt (AG sb m) 554 [2, 4, 7, 8, 9, 31, 32, 53] [0, 23, 244, 254] (AE hm h4 h0).down
def Aw {e : Int} (h0 : e ≠ 0) := PLift.up (ai (show (e != 0) = true from by simpa using h0) (ai (show (e == 0) = false from by simpa using h0) tt0))
def Bh : LO0 := [(565, wF), (578, wT)]
theorem adb (h : QH) (g : GT) (sb : LU0) (e : Int) (h0 : e ≠ 0) : qy (qCz h g sb e 0).aa .normal (qCz h { g with w0 := 0 } sb e 1).aa :=
 rt Bh 554 [2, 4, 7, 8, 9, 31, 32, 53] [0, 23, 244, 254] (Aw h0).down
theorem afU (h : QH) (g : GT) (st : Int × LU0) (hl : st.1 = 0 -> 4 <= st.2.length) : qy (qCz h g st.2 st.1 0).aa .normal (qCz h { g with w0 := rvl 4 wV 0 st } (rst 4 noE st).2 (rst 4 noE st).1 1).aa := by
 obtain ⟨e, sb⟩ := st
 by_cases h0 : e = 0
 ·subst h0
  rw [show rst 4 noE (0, sb) = (0, sb.drop 4) from rfl, show rvl 4 wV 0 (0, sb) = wV (sb.take 4) from if_pos rfl]
  by_cases h1 : c4 sb = 4294967295
  ·rw [Ba h1]; exact abE h g sb 0 _ rfl (hl rfl) h1
  ·rw [AU h1]; exact aeh h g sb 0 _ rfl (hl rfl) h1
 ·rw [show rst 4 noE (e, sb) = (e, sb) from if_neg h0, show rvl 4 wV 0 (e, sb) = 0 from if_neg h0]
  exact adb h g sb e h0
theorem ac3 (h : QH) (g : GT) (sb : LU0) (e : Int) (m : Nat) (hm : c4 sb = m) (h4 : 4 <= sb.length) (h0 : m ≠ 4294967295) : qy (qCz h g sb 0 1).aa .normal (qCz h { g with w1 := ((m : Nat) : Int) } (sb.drop 4) 0 2).aa :=
 rt (Bk sb m) 554 [2, 4, 7, 8, 9, 31, 32, 53] [0, 23, 244, 254] (AK hm h4 h0).down
theorem abz (h : QH) (g : GT) (sb : LU0) (e : Int) (m : Nat) (hm : c4 sb = m) (h4 : 4 <= sb.length) (h0 : m = 4294967295) : qy (qCz h g sb 0 1).aa .normal (qCz h { g with w1 := (-1) } (sb.drop 4) 0 2).aa :=
 rt (AG sb m) 554 [2, 4, 7, 8, 9, 31, 32, 53] [0, 23, 244, 254] (AE hm h4 h0).down
theorem abc (h : QH) (g : GT) (sb : LU0) (e : Int) (h0 : e ≠ 0) : qy (qCz h g sb e 1).aa .normal (qCz h { g with w1 := 0 } sb e 2).aa :=
 rt Bh 554 [2, 4, 7, 8, 9, 31, 32, 53] [0, 23, 244, 254] (Aw h0).down
theorem af2 (h : QH) (g : GT) (st : Int × LU0) (hl : st.1 = 0 -> 4 <= st.2.length) : qy (qCz h g st.2 st.1 1).aa .normal (qCz h { g with w1 := rvl 4 wV 0 st } (rst 4 noE st).2 (rst 4 noE st).1 2).aa := by
 obtain ⟨e, sb⟩ := st
 by_cases h0 : e = 0
 ·subst h0
  rw [show rst 4 noE (0, sb) = (0, sb.drop 4) from rfl, show rvl 4 wV 0 (0, sb) = wV (sb.take 4) from if_pos rfl]
  by_cases h1 : c4 sb = 4294967295
  ·rw [Ba h1]; exact abz h g sb 0 _ rfl (hl rfl) h1
  ·rw [AU h1]; exact ac3 h g sb 0 _ rfl (hl rfl) h1
 ·rw [show rst 4 noE (e, sb) = (e, sb) from if_neg h0, show rvl 4 wV 0 (e, sb) = 0 from if_neg h0]
  exact abc h g sb e h0
theorem aeu (h : QH) (g : GT) (sb : LU0) (e : Int) (m : Nat) (hm : c4 sb = m) (h4 : 4 <= sb.length) (h0 : m ≠ 4294967295) : qy (qCz h g sb 0 2).aa .normal (qCz h { g with w2 := ((m : Nat) : Int) } (sb.drop 4) 0 3).aa :=
 rt (Bk sb m) 554 [2, 4, 7, 8, 9, 31, 32, 53] [0, 23, 244, 254] (AK hm h4 h0).down
theorem aeY (h : QH) (g : GT) (sb : LU0) (e : Int) (m : Nat) (hm : c4 sb = m) (h4 : 4 <= sb.length) (h0 : m = 4294967295) : qy (qCz h g sb 0 2).aa .normal (qCz h { g with w2 := (-1) } (sb.drop 4) 0 3).aa :=
 rt (AG sb m) 554 [2, 4, 7, 8, 9, 31, 32, 53] [0, 23, 244, 254] (AE hm h4 h0).down
theorem aco (h : QH) (g : GT) (sb : LU0) (e : Int) (h0 : e ≠ 0) : qy (qCz h g sb e 2).aa .normal (qCz h { g with w2 := 0 } sb e 3).aa :=
 rt Bh 554 [2, 4, 7, 8, 9, 31, 32, 53] [0, 23, 244, 254] (Aw h0).down
theorem agP (h : QH) (g : GT) (st : Int × LU0) (hl : st.1 = 0 -> 4 <= st.2.length) : qy (qCz h g st.2 st.1 2).aa .normal (qCz h { g with w2 := rvl 4 wV 0 st } (rst 4 noE st).2 (rst 4 noE st).1 3).aa := by
 obtain ⟨e, sb⟩ := st
 by_cases h0 : e = 0
 ·subst h0
  rw [show rst 4 noE (0, sb) = (0, sb.drop 4) from rfl, show rvl 4 wV 0 (0, sb) = wV (sb.take 4) from if_pos rfl]
  by_cases h1 : c4 sb = 4294967295
  ·rw [Ba h1]; exact aeY h g sb 0 _ rfl (hl rfl) h1
  ·rw [AU h1]; exact aeu h g sb 0 _ rfl (hl rfl) h1
 ·rw [show rst 4 noE (e, sb) = (e, sb) from if_neg h0, show rvl 4 wV 0 (e, sb) = 0 from if_neg h0]
  exact aco h g sb e h0
theorem aa7 (h : QH) (C : List Value) (i : Nat) (g : GT) (sb : LU0) (e : Int) (hl : 32 <= sb.length) (h0 : (gfE (sb.take 32)) = 0) : qa (qAr h C i g sb 0 0).aa .normal (qAr h C i { g with q0 := (gfV (sb.take 32)) } (sb.drop 32) (gfE (sb.take 32)) 1).aa :=
 qR (os := oL [(281, rO 5 0), (295, rO 5 0), (313, wF)]) (by kernel_rfl) (ai (qFr h C i 0 1 rfl (sb := (sb.drop 32)) (e := (gfE (sb.take 32))) (a := ins (gP g) 0 1 ([.n 4 (gfV (sb.take 32))])) (b := gP { g with q0 := (gfV (sb.take 32)) }) (by kernel_rfl)) (ai (eqz h0) (ai (pK hl) (ai (pK hl) tt0))))
theorem abh (h : QH) (C : List Value) (i : Nat) (g : GT) (sb : LU0) (e : Int) (hl : 32 <= sb.length) (h0 : (gfE (sb.take 32)) ≠ 0) : qa (qAr h C i g sb 0 0).aa .normal (qAr h C i { g with q0 := (gfV (sb.take 32)) } (sb.drop 32) (gfE (sb.take 32)) 1).aa :=
 qR (os := oL [(281, rO 5 0), (295, rO 5 0), (313, wT)]) (by kernel_rfl) (ai (qFr h C i 0 1 rfl (sb := (sb.drop 32)) (e := (gfE (sb.take 32))) (a := ins (gP g) 0 1 (z4G)) (b := gP { g with q0 := (gfV (sb.take 32)) }) (by rw [rq h0]; kernel_rfl)) (ai (nez h0) (ai (pK hl) (ai (pK hl) tt0))))
theorem aer (h : QH) (C : List Value) (i : Nat) (g : GT) (sb : LU0) (e : Int) (h0 : e ≠ 0) : qa (qAr h C i g sb e 0).aa .normal (qAr h C i { g with q0 := 0 } sb e 1).aa :=
 qR (os := oL [(274, wT)]) (by kernel_rfl) (ai (qFr h C i 0 1 rfl (sb := sb) (e := e) (a := ins (gP g) 0 1 (z4G)) (b := gP { g with q0 := 0 }) (by kernel_rfl)) (ai (nez h0) tt0))
theorem ae7 (h : QH) (C : List Value) (i : Nat) (g : GT) (st : Int × LU0) (hl : st.1 = 0 -> 32 <= st.2.length) : qa (qAr h C i g st.2 st.1 0).aa .normal (qAr h C i { g with q0 := rvl 32 gfV 0 st } (rst 32 gfE st).2 (rst 32 gfE st).1 1).aa := by
 obtain ⟨e, sb⟩ := st
 by_cases h0 : e = 0
 ·subst h0
  by_cases h1 : gfE (sb.take 32) = 0
  ·exact aa7 h C i g sb 0 (hl rfl) h1
  ·exact abh h C i g sb 0 (hl rfl) h1
 ·rw [show rst 32 gfE (e, sb) = (e, sb) from if_neg h0, show rvl 32 gfV 0 (e, sb) = 0 from if_neg h0]
  exact aer h C i g sb e h0
theorem aej (h : QH) (C : List Value) (i : Nat) (g : GT) (sb : LU0) (e : Int) (hl : 32 <= sb.length) (h0 : (gfE (sb.take 32)) = 0) : qa (qAr h C i g sb 0 1).aa .normal (qAr h C i { g with q1 := (gfV (sb.take 32)) } (sb.drop 32) (gfE (sb.take 32)) 2).aa :=
 qR (os := oL [(281, rO 5 0), (295, rO 5 0), (313, wF)]) (by kernel_rfl) (ai (qFr h C i 1 2 rfl (sb := (sb.drop 32)) (e := (gfE (sb.take 32))) (a := ins (gP g) 1 1 ([.n 4 (gfV (sb.take 32))])) (b := gP { g with q1 := (gfV (sb.take 32)) }) (by kernel_rfl)) (ai (eqz h0) (ai (pK hl) (ai (pK hl) tt0))))
theorem aec (h : QH) (C : List Value) (i : Nat) (g : GT) (sb : LU0) (e : Int) (hl : 32 <= sb.length) (h0 : (gfE (sb.take 32)) ≠ 0) : qa (qAr h C i g sb 0 1).aa .normal (qAr h C i { g with q1 := (gfV (sb.take 32)) } (sb.drop 32) (gfE (sb.take 32)) 2).aa :=
 qR (os := oL [(281, rO 5 0), (295, rO 5 0), (313, wT)]) (by kernel_rfl) (ai (qFr h C i 1 2 rfl (sb := (sb.drop 32)) (e := (gfE (sb.take 32))) (a := ins (gP g) 1 1 (z4G)) (b := gP { g with q1 := (gfV (sb.take 32)) }) (by rw [rq h0]; kernel_rfl)) (ai (nez h0) (ai (pK hl) (ai (pK hl) tt0))))
theorem abd (h : QH) (C : List Value) (i : Nat) (g : GT) (sb : LU0) (e : Int) (h0 : e ≠ 0) : qa (qAr h C i g sb e 1).aa .normal (qAr h C i { g with q1 := 0 } sb e 2).aa :=
 qR (os := oL [(274, wT)]) (by kernel_rfl) (ai (qFr h C i 1 2 rfl (sb := sb) (e := e) (a := ins (gP g) 1 1 (z4G)) (b := gP { g with q1 := 0 }) (by kernel_rfl)) (ai (nez h0) tt0))
theorem afm (h : QH) (C : List Value) (i : Nat) (g : GT) (st : Int × LU0) (hl : st.1 = 0 -> 32 <= st.2.length) : qa (qAr h C i g st.2 st.1 1).aa .normal (qAr h C i { g with q1 := rvl 32 gfV 0 st } (rst 32 gfE st).2 (rst 32 gfE st).1 2).aa := by
 obtain ⟨e, sb⟩ := st
 by_cases h0 : e = 0
 ·subst h0
  by_cases h1 : gfE (sb.take 32) = 0
  ·exact aej h C i g sb 0 (hl rfl) h1
  ·exact aec h C i g sb 0 (hl rfl) h1
 ·rw [show rst 32 gfE (e, sb) = (e, sb) from if_neg h0, show rvl 32 gfV 0 (e, sb) = 0 from if_neg h0]
  exact abd h C i g sb e h0
theorem acG (h : QH) (C : List Value) (i : Nat) (g : GT) (sb : LU0) (e : Int) (hl : 32 <= sb.length) (h0 : (gfE (sb.take 32)) = 0) : qa (qAr h C i g sb 0 2).aa .normal (qAr h C i { g with q2 := (gfV (sb.take 32)) } (sb.drop 32) (gfE (sb.take 32)) 3).aa :=
 qR (os := oL [(281, rO 5 0), (295, rO 5 0), (313, wF)]) (by kernel_rfl) (ai (qFr h C i 2 3 rfl (sb := (sb.drop 32)) (e := (gfE (sb.take 32))) (a := ins (gP g) 2 1 ([.n 4 (gfV (sb.take 32))])) (b := gP { g with q2 := (gfV (sb.take 32)) }) (by kernel_rfl)) (ai (eqz h0) (ai (pK hl) (ai (pK hl) tt0))))
theorem abR (h : QH) (C : List Value) (i : Nat) (g : GT) (sb : LU0) (e : Int) (hl : 32 <= sb.length) (h0 : (gfE (sb.take 32)) ≠ 0) : qa (qAr h C i g sb 0 2).aa .normal (qAr h C i { g with q2 := (gfV (sb.take 32)) } (sb.drop 32) (gfE (sb.take 32)) 3).aa :=
 qR (os := oL [(281, rO 5 0), (295, rO 5 0), (313, wT)]) (by kernel_rfl) (ai (qFr h C i 2 3 rfl (sb := (sb.drop 32)) (e := (gfE (sb.take 32))) (a := ins (gP g) 2 1 (z4G)) (b := gP { g with q2 := (gfV (sb.take 32)) }) (by rw [rq h0]; kernel_rfl)) (ai (nez h0) (ai (pK hl) (ai (pK hl) tt0))))
theorem ace (h : QH) (C : List Value) (i : Nat) (g : GT) (sb : LU0) (e : Int) (h0 : e ≠ 0) : qa (qAr h C i g sb e 2).aa .normal (qAr h C i { g with q2 := 0 } sb e 3).aa :=
 qR (os := oL [(274, wT)]) (by kernel_rfl) (ai (qFr h C i 2 3 rfl (sb := sb) (e := e) (a := ins (gP g) 2 1 (z4G)) (b := gP { g with q2 := 0 }) (by kernel_rfl)) (ai (nez h0) tt0))
theorem afu (h : QH) (C : List Value) (i : Nat) (g : GT) (st : Int × LU0) (hl : st.1 = 0 -> 32 <= st.2.length) : qa (qAr h C i g st.2 st.1 2).aa .normal (qAr h C i { g with q2 := rvl 32 gfV 0 st } (rst 32 gfE st).2 (rst 32 gfE st).1 3).aa := by
 obtain ⟨e, sb⟩ := st
 by_cases h0 : e = 0
 ·subst h0
  by_cases h1 : gfE (sb.take 32) = 0
  ·exact acG h C i g sb 0 (hl rfl) h1
  ·exact abR h C i g sb 0 (hl rfl) h1
 ·rw [show rst 32 gfE (e, sb) = (e, sb) from if_neg h0, show rvl 32 gfV 0 (e, sb) = 0 from if_neg h0]
  exact ace h C i g sb e h0
theorem adz (h : QH) (C : List Value) (i : Nat) (g : GT) (sb : LU0) (e : Int) (hl : 32 <= sb.length) (h0 : (gfE (sb.take 32)) = 0) : qa (qAr h C i g sb 0 3).aa .normal (qAr h C i { g with q3 := (gfV (sb.take 32)) } (sb.drop 32) (gfE (sb.take 32)) 4).aa :=
 qR (os := oL [(281, rO 5 0), (295, rO 5 0), (313, wF)]) (by kernel_rfl) (ai (qFr h C i 3 4 rfl (sb := (sb.drop 32)) (e := (gfE (sb.take 32))) (a := ins (gP g) 3 1 ([.n 4 (gfV (sb.take 32))])) (b := gP { g with q3 := (gfV (sb.take 32)) }) (by kernel_rfl)) (ai (eqz h0) (ai (pK hl) (ai (pK hl) tt0))))
theorem adk (h : QH) (C : List Value) (i : Nat) (g : GT) (sb : LU0) (e : Int) (hl : 32 <= sb.length) (h0 : (gfE (sb.take 32)) ≠ 0) : qa (qAr h C i g sb 0 3).aa .normal (qAr h C i { g with q3 := (gfV (sb.take 32)) } (sb.drop 32) (gfE (sb.take 32)) 4).aa :=
 qR (os := oL [(281, rO 5 0), (295, rO 5 0), (313, wT)]) (by kernel_rfl) (ai (qFr h C i 3 4 rfl (sb := (sb.drop 32)) (e := (gfE (sb.take 32))) (a := ins (gP g) 3 1 (z4G)) (b := gP { g with q3 := (gfV (sb.take 32)) }) (by rw [rq h0]; kernel_rfl)) (ai (nez h0) (ai (pK hl) (ai (pK hl) tt0))))
theorem abD (h : QH) (C : List Value) (i : Nat) (g : GT) (sb : LU0) (e : Int) (h0 : e ≠ 0) : qa (qAr h C i g sb e 3).aa .normal (qAr h C i { g with q3 := 0 } sb e 4).aa :=
 qR (os := oL [(274, wT)]) (by kernel_rfl) (ai (qFr h C i 3 4 rfl (sb := sb) (e := e) (a := ins (gP g) 3 1 (z4G)) (b := gP { g with q3 := 0 }) (by kernel_rfl)) (ai (nez h0) tt0))
theorem af6 (h : QH) (C : List Value) (i : Nat) (g : GT) (st : Int × LU0) (hl : st.1 = 0 -> 32 <= st.2.length) : qa (qAr h C i g st.2 st.1 3).aa .normal (qAr h C i { g with q3 := rvl 32 gfV 0 st } (rst 32 gfE st).2 (rst 32 gfE st).1 4).aa := by
 obtain ⟨e, sb⟩ := st
 by_cases h0 : e = 0
 ·subst h0
  by_cases h1 : gfE (sb.take 32) = 0
  ·exact adz h C i g sb 0 (hl rfl) h1
  ·exact adk h C i g sb 0 (hl rfl) h1
 ·rw [show rst 32 gfE (e, sb) = (e, sb) from if_neg h0, show rvl 32 gfV 0 (e, sb) = 0 from if_neg h0]
  exact abD h C i g sb e h0
theorem abi (h : QH) (C : List Value) (i : Nat) (g : GT) (sb : LU0) (e : Int) (hl : 32 <= sb.length) (h0 : (gfE (sb.take 32)) = 0) : qa (qAr h C i g sb 0 4).aa .normal (qAr h C i { g with q4 := (gfV (sb.take 32)) } (sb.drop 32) (gfE (sb.take 32)) 5).aa :=
 qR (os := oL [(281, rO 5 0), (295, rO 5 0), (313, wF)]) (by kernel_rfl) (ai (qFr h C i 4 5 rfl (sb := (sb.drop 32)) (e := (gfE (sb.take 32))) (a := ins (gP g) 4 1 ([.n 4 (gfV (sb.take 32))])) (b := gP { g with q4 := (gfV (sb.take 32)) }) (by kernel_rfl)) (ai (eqz h0) (ai (pK hl) (ai (pK hl) tt0))))
theorem adg (h : QH) (C : List Value) (i : Nat) (g : GT) (sb : LU0) (e : Int) (hl : 32 <= sb.length) (h0 : (gfE (sb.take 32)) ≠ 0) : qa (qAr h C i g sb 0 4).aa .normal (qAr h C i { g with q4 := (gfV (sb.take 32)) } (sb.drop 32) (gfE (sb.take 32)) 5).aa :=
 qR (os := oL [(281, rO 5 0), (295, rO 5 0), (313, wT)]) (by kernel_rfl) (ai (qFr h C i 4 5 rfl (sb := (sb.drop 32)) (e := (gfE (sb.take 32))) (a := ins (gP g) 4 1 (z4G)) (b := gP { g with q4 := (gfV (sb.take 32)) }) (by rw [rq h0]; kernel_rfl)) (ai (nez h0) (ai (pK hl) (ai (pK hl) tt0))))
theorem aev (h : QH) (C : List Value) (i : Nat) (g : GT) (sb : LU0) (e : Int) (h0 : e ≠ 0) : qa (qAr h C i g sb e 4).aa .normal (qAr h C i { g with q4 := 0 } sb e 5).aa :=
 qR (os := oL [(274, wT)]) (by kernel_rfl) (ai (qFr h C i 4 5 rfl (sb := sb) (e := e) (a := ins (gP g) 4 1 (z4G)) (b := gP { g with q4 := 0 }) (by kernel_rfl)) (ai (nez h0) tt0))
theorem agy (h : QH) (C : List Value) (i : Nat) (g : GT) (st : Int × LU0) (hl : st.1 = 0 -> 32 <= st.2.length) : qa (qAr h C i g st.2 st.1 4).aa .normal (qAr h C i { g with q4 := rvl 32 gfV 0 st } (rst 32 gfE st).2 (rst 32 gfE st).1 5).aa := by
 obtain ⟨e, sb⟩ := st
 by_cases h0 : e = 0
 ·subst h0
  by_cases h1 : gfE (sb.take 32) = 0
  ·exact abi h C i g sb 0 (hl rfl) h1
  ·exact adg h C i g sb 0 (hl rfl) h1
 ·rw [show rst 32 gfE (e, sb) = (e, sb) from if_neg h0, show rvl 32 gfV 0 (e, sb) = 0 from if_neg h0]
  exact aev h C i g sb e h0
theorem abK (h : QH) (C : List Value) (i : Nat) (g : GT) (sb : LU0) (e : Int) (m : Nat) (hm : c4 sb = m) (h4 : 4 <= sb.length) (h0 : m ≠ 4294967295) : qy (qCr h C i g sb 0 0).aa .normal (qCr h C i { g with w0 := ((m : Nat) : Int) } (sb.drop 4) 0 1).aa :=
 rt (Bk sb m) 554 [2, 4, 7, 8, 9, 31, 32, 53] [0, 23, 244, 254, 24] (AK hm h4 h0).down
theorem acv (h : QH) (C : List Value) (i : Nat) (g : GT) (sb : LU0) (e : Int) (m : Nat) (hm : c4 sb = m) (h4 : 4 <= sb.length) (h0 : m = 4294967295) : qy (qCr h C i g sb 0 0).aa .normal (qCr h C i { g with w0 := (-1) } (sb.drop 4) 0 1).aa :=
 rt (AG sb m) 554 [2, 4, 7, 8, 9, 31, 32, 53] [0, 23, 244, 254, 24] (AE hm h4 h0).down
theorem aeK (h : QH) (C : List Value) (i : Nat) (g : GT) (sb : LU0) (e : Int) (h0 : e ≠ 0) : qy (qCr h C i g sb e 0).aa .normal (qCr h C i { g with w0 := 0 } sb e 1).aa :=
 rt Bh 554 [2, 4, 7, 8, 9, 31, 32, 53] [0, 23, 244, 254, 24] (Aw h0).down
theorem afK (h : QH) (C : List Value) (i : Nat) (g : GT) (st : Int × LU0) (hl : st.1 = 0 -> 4 <= st.2.length) : qy (qCr h C i g st.2 st.1 0).aa .normal (qCr h C i { g with w0 := rvl 4 wV 0 st } (rst 4 noE st).2 (rst 4 noE st).1 1).aa := by
 obtain ⟨e, sb⟩ := st
 by_cases h0 : e = 0
 ·subst h0
  rw [show rst 4 noE (0, sb) = (0, sb.drop 4) from rfl, show rvl 4 wV 0 (0, sb) = wV (sb.take 4) from if_pos rfl]
  by_cases h1 : c4 sb = 4294967295
  ·rw [Ba h1]; exact acv h C i g sb 0 _ rfl (hl rfl) h1
  ·rw [AU h1]; exact abK h C i g sb 0 _ rfl (hl rfl) h1
 ·rw [show rst 4 noE (e, sb) = (e, sb) from if_neg h0, show rvl 4 wV 0 (e, sb) = 0 from if_neg h0]
  exact aeK h C i g sb e h0
theorem acL (h : QH) (C : List Value) (i : Nat) (g : GT) (sb : LU0) (e : Int) (m : Nat) (hm : c4 sb = m) (h4 : 4 <= sb.length) (h0 : m ≠ 4294967295) : qy (qCr h C i g sb 0 1).aa .normal (qCr h C i { g with w1 := ((m : Nat) : Int) } (sb.drop 4) 0 2).aa :=
 rt (Bk sb m) 554 [2, 4, 7, 8, 9, 31, 32, 53] [0, 23, 244, 254, 24] (AK hm h4 h0).down
theorem acr (h : QH) (C : List Value) (i : Nat) (g : GT) (sb : LU0) (e : Int) (m : Nat) (hm : c4 sb = m) (h4 : 4 <= sb.length) (h0 : m = 4294967295) : qy (qCr h C i g sb 0 1).aa .normal (qCr h C i { g with w1 := (-1) } (sb.drop 4) 0 2).aa :=
 rt (AG sb m) 554 [2, 4, 7, 8, 9, 31, 32, 53] [0, 23, 244, 254, 24] (AE hm h4 h0).down
theorem acS (h : QH) (C : List Value) (i : Nat) (g : GT) (sb : LU0) (e : Int) (h0 : e ≠ 0) : qy (qCr h C i g sb e 1).aa .normal (qCr h C i { g with w1 := 0 } sb e 2).aa :=
 rt Bh 554 [2, 4, 7, 8, 9, 31, 32, 53] [0, 23, 244, 254, 24] (Aw h0).down
theorem afe (h : QH) (C : List Value) (i : Nat) (g : GT) (st : Int × LU0) (hl : st.1 = 0 -> 4 <= st.2.length) : qy (qCr h C i g st.2 st.1 1).aa .normal (qCr h C i { g with w1 := rvl 4 wV 0 st } (rst 4 noE st).2 (rst 4 noE st).1 2).aa := by
 obtain ⟨e, sb⟩ := st
 by_cases h0 : e = 0
 ·subst h0
  rw [show rst 4 noE (0, sb) = (0, sb.drop 4) from rfl, show rvl 4 wV 0 (0, sb) = wV (sb.take 4) from if_pos rfl]
  by_cases h1 : c4 sb = 4294967295
  ·rw [Ba h1]; exact acr h C i g sb 0 _ rfl (hl rfl) h1
  ·rw [AU h1]; exact acL h C i g sb 0 _ rfl (hl rfl) h1
 ·rw [show rst 4 noE (e, sb) = (e, sb) from if_neg h0, show rvl 4 wV 0 (e, sb) = 0 from if_neg h0]
  exact acS h C i g sb e h0
theorem abL (h : QH) (C : List Value) (i : Nat) (g : GT) (sb : LU0) (e : Int) (m : Nat) (hm : c4 sb = m) (h4 : 4 <= sb.length) (h0 : m ≠ 4294967295) : qy (qCr h C i g sb 0 2).aa .normal (qCr h C i { g with w2 := ((m : Nat) : Int) } (sb.drop 4) 0 3).aa :=
 rt (Bk sb m) 554 [2, 4, 7, 8, 9, 31, 32, 53] [0, 23, 244, 254, 24] (AK hm h4 h0).down
theorem aeQ (h : QH) (C : List Value) (i : Nat) (g : GT) (sb : LU0) (e : Int) (m : Nat) (hm : c4 sb = m) (h4 : 4 <= sb.length) (h0 : m = 4294967295) : qy (qCr h C i g sb 0 2).aa .normal (qCr h C i { g with w2 := (-1) } (sb.drop 4) 0 3).aa :=
 rt (AG sb m) 554 [2, 4, 7, 8, 9, 31, 32, 53] [0, 23, 244, 254, 24] (AE hm h4 h0).down
theorem acd (h : QH) (C : List Value) (i : Nat) (g : GT) (sb : LU0) (e : Int) (h0 : e ≠ 0) : qy (qCr h C i g sb e 2).aa .normal (qCr h C i { g with w2 := 0 } sb e 3).aa :=
 rt Bh 554 [2, 4, 7, 8, 9, 31, 32, 53] [0, 23, 244, 254, 24] (Aw h0).down
theorem agf (h : QH) (C : List Value) (i : Nat) (g : GT) (st : Int × LU0) (hl : st.1 = 0 -> 4 <= st.2.length) : qy (qCr h C i g st.2 st.1 2).aa .normal (qCr h C i { g with w2 := rvl 4 wV 0 st } (rst 4 noE st).2 (rst 4 noE st).1 3).aa := by
 obtain ⟨e, sb⟩ := st
 by_cases h0 : e = 0
 ·subst h0
  rw [show rst 4 noE (0, sb) = (0, sb.drop 4) from rfl, show rvl 4 wV 0 (0, sb) = wV (sb.take 4) from if_pos rfl]
  by_cases h1 : c4 sb = 4294967295
  ·rw [Ba h1]; exact aeQ h C i g sb 0 _ rfl (hl rfl) h1
  ·rw [AU h1]; exact abL h C i g sb 0 _ rfl (hl rfl) h1
 ·rw [show rst 4 noE (e, sb) = (e, sb) from if_neg h0, show rvl 4 wV 0 (e, sb) = 0 from if_neg h0]
  exact acd h C i g sb e h0
def qfA (g : GT) (V : Nat -> Nat) (i : Nat) : GT := { g with q0 := if 0 < i then V 0 else g.q0, q1 := if 1 < i then V 1 else g.q1, q2 := if 2 < i then V 2 else g.q2, q3 := if 3 < i then V 3 else g.q3, q4 := if 4 < i then V 4 else g.q4 }
theorem PH (st : Int × LU0) (h0 : st.1 = 0 -> 160 <= st.2.length) (i : Nat) (hi : i < 5) : (nst 32 gfE i st).1 = 0 -> 32 <= (nst 32 gfE i st).2.length := by
 intro h
 obtain ⟨h1, h2, _⟩ := qh i st h
 rw [h2]
 show 32 <= (st.2.drop (32 * i)).length
 have := h0 h1
 rw [List.length_drop]
 omega
theorem Ca {c : Code} {I L : LState} {ex : Ex} {b : Prop} (o : LO0) (k : Nat) (sk hk : List Nat) (hb : b) (h : uW prog (pN _) [] 0 (oL o) 0 false c k I sk hk [] = some (ex, L, b) := by kernel_rfl) : Sound prog 0 false c I.aa ex L.aa := pR (P := prog) (X := pN _) (env := []) trivial h hb
theorem U1 (h : QH) (g : GT) (sb : LU0) (e : Int) : qa (qAz h g sb e 5).aa (.exit 2) (qBz h g sb e).aa :=
 Ca [] 262 [2, 4, 7, 8, 9, 31, 32] [0, 23, 244, 254] trivial
theorem Uv (h : QH) (g : GT) (st : Int × LU0) (h0 : st.1 = 0 -> 160 <= st.2.length) : Sound prog 0 false (.loop (pS f9 1)) (qAz h (qfA g (fun j => rvl 32 gfV 0 (nst 32 gfE j st)) 0) st.2 st.1 0).aa (.exit 2) (qBz h (qfA g (fun j => rvl 32 gfV 0 (nst 32 gfE j st)) 5) (nst 32 gfE 5 st).2 (nst 32 gfE 5 st).1).aa := by
 have hh := qk (P := prog) (fb := 0) (rd := false) (body := (pS f9 1)) (ex := .exit 2) (E := qBz h (qfA g (fun j => rvl 32 gfV 0 (nst 32 gfE j st)) 5) (nst 32 gfE 5 st).2 (nst 32 gfE 5 st).1) (m := fun y : { i : Nat // i <= 5 } => 5 - y.val) (fun y => qAz h (qfA g (fun j => rvl 32 gfV 0 (nst 32 gfE j st)) y.val) (nst 32 gfE y.val st).2 (nst 32 gfE y.val st).1 (y.val : Int)) (by simp) (fun y => ?_) ⟨0, by omega⟩
 ·exact hh
 obtain ⟨m, hi⟩ := y
 by_cases e : m < 5
 ·refine .inl ⟨⟨m + 1, e⟩, by show 5 - (m + 1) < 5 - m; omega, ?_⟩
  have hl := PH st h0 m e
  have e : m = 0 ∨ m = 1 ∨ m = 2 ∨ m = 3 ∨ m = 4 := by omega
  rcases e with rfl | rfl | rfl | rfl | rfl
  ·exact agA h (qfA g (fun j => rvl 32 gfV 0 (nst 32 gfE j st)) 0) (nst 32 gfE 0 st) hl
  ·exact agB h (qfA g (fun j => rvl 32 gfV 0 (nst 32 gfE j st)) 1) (nst 32 gfE 1 st) hl
  ·exact aga h (qfA g (fun j => rvl 32 gfV 0 (nst 32 gfE j st)) 2) (nst 32 gfE 2 st) hl
  ·exact afp h (qfA g (fun j => rvl 32 gfV 0 (nst 32 gfE j st)) 3) (nst 32 gfE 3 st) hl
  ·exact afP h (qfA g (fun j => rvl 32 gfV 0 (nst 32 gfE j st)) 4) (nst 32 gfE 4 st) hl
 ·have e : m = 5 := by omega
  subst e
  exact .inr (U1 h _ _ _)
def qfB (g : GT) (V : Nat -> Int) (i : Nat) : GT := { g with w0 := if 0 < i then V 0 else g.w0, w1 := if 1 < i then V 1 else g.w1, w2 := if 2 < i then V 2 else g.w2 }
theorem O4 (st : Int × LU0) (h0 : st.1 = 0 -> 12 <= st.2.length) (i : Nat) (hi : i < 3) : (nst 4 noE i st).1 = 0 -> 4 <= (nst 4 noE i st).2.length := by
 intro h
 obtain ⟨h1, h2, _⟩ := qh i st h
 rw [h2]
 show 4 <= (st.2.drop (4 * i)).length
 have := h0 h1
 rw [List.length_drop]
 omega
theorem VD (h : QH) (g : GT) (sb : LU0) (e : Int) : qy (qCz h g sb e 3).aa (.exit 4) (qBz h g sb e).aa :=
 Ca [] 554 [2, 4, 7, 8, 9, 31, 32] [0, 23, 244, 254] trivial
theorem Wz (h : QH) (g : GT) (st : Int × LU0) (h0 : st.1 = 0 -> 12 <= st.2.length) : Sound prog 0 false (.loop (pS f9 2)) (qCz h (qfB g (fun j => rvl 4 wV 0 (nst 4 noE j st)) 0) st.2 st.1 0).aa (.exit 4) (qBz h (qfB g (fun j => rvl 4 wV 0 (nst 4 noE j st)) 3) (nst 4 noE 3 st).2 (nst 4 noE 3 st).1).aa := by
 have hh := qk (P := prog) (fb := 0) (rd := false) (body := (pS f9 2)) (ex := .exit 4) (E := qBz h (qfB g (fun j => rvl 4 wV 0 (nst 4 noE j st)) 3) (nst 4 noE 3 st).2 (nst 4 noE 3 st).1) (m := fun y : { i : Nat // i <= 3 } => 3 - y.val) (fun y => qCz h (qfB g (fun j => rvl 4 wV 0 (nst 4 noE j st)) y.val) (nst 4 noE y.val st).2 (nst 4 noE y.val st).1 (y.val : Int)) (by simp) (fun y => ?_) ⟨0, by omega⟩
 ·exact hh
 obtain ⟨m, hi⟩ := y
 by_cases e : m < 3
 ·refine .inl ⟨⟨m + 1, e⟩, by show 3 - (m + 1) < 3 - m; omega, ?_⟩
  have hl := O4 st h0 m e
  have e : m = 0 ∨ m = 1 ∨ m = 2 := by omega
  rcases e with rfl | rfl | rfl
  ·exact afU h (qfB g (fun j => rvl 4 wV 0 (nst 4 noE j st)) 0) (nst 4 noE 0 st) hl
  ·exact af2 h (qfB g (fun j => rvl 4 wV 0 (nst 4 noE j st)) 1) (nst 4 noE 1 st) hl
  ·exact agP h (qfB g (fun j => rvl 4 wV 0 (nst 4 noE j st)) 2) (nst 4 noE 2 st) hl
 ·have e : m = 3 := by omega
  subst e
  exact .inr (VD h _ _ _)
theorem Wi (h : QH) (C : List Value) (i : Nat) (g : GT) (sb : LU0) (e : Int) : qa (qAr h C i g sb e 5).aa (.exit 2) (qBr h C i g sb e).aa :=
 Ca [] 262 [2, 4, 7, 8, 9, 31, 32] [0, 23, 244, 254, 24] trivial
theorem Un (h : QH) (C : List Value) (i : Nat) (g : GT) (st : Int × LU0) (h0 : st.1 = 0 -> 160 <= st.2.length) : Sound prog 0 false (.loop (pS f9 1)) (qAr h C i (qfA g (fun j => rvl 32 gfV 0 (nst 32 gfE j st)) 0) st.2 st.1 0).aa (.exit 2) (qBr h C i (qfA g (fun j => rvl 32 gfV 0 (nst 32 gfE j st)) 5) (nst 32 gfE 5 st).2 (nst 32 gfE 5 st).1).aa := by
 have hh := qk (P := prog) (fb := 0) (rd := false) (body := (pS f9 1)) (ex := .exit 2) (E := qBr h C i (qfA g (fun j => rvl 32 gfV 0 (nst 32 gfE j st)) 5) (nst 32 gfE 5 st).2 (nst 32 gfE 5 st).1) (m := fun y : { i : Nat // i <= 5 } => 5 - y.val) (fun y => qAr h C i (qfA g (fun j => rvl 32 gfV 0 (nst 32 gfE j st)) y.val) (nst 32 gfE y.val st).2 (nst 32 gfE y.val st).1 (y.val : Int)) (by simp) (fun y => ?_) ⟨0, by omega⟩
 ·exact hh
 obtain ⟨m, hi⟩ := y
 by_cases e : m < 5
 ·refine .inl ⟨⟨m + 1, e⟩, by show 5 - (m + 1) < 5 - m; omega, ?_⟩
  have hl := PH st h0 m e
  have e : m = 0 ∨ m = 1 ∨ m = 2 ∨ m = 3 ∨ m = 4 := by omega
  rcases e with rfl | rfl | rfl | rfl | rfl
  ·exact ae7 h C i (qfA g (fun j => rvl 32 gfV 0 (nst 32 gfE j st)) 0) (nst 32 gfE 0 st) hl
  ·exact afm h C i (qfA g (fun j => rvl 32 gfV 0 (nst 32 gfE j st)) 1) (nst 32 gfE 1 st) hl
  ·exact afu h C i (qfA g (fun j => rvl 32 gfV 0 (nst 32 gfE j st)) 2) (nst 32 gfE 2 st) hl
  ·exact af6 h C i (qfA g (fun j => rvl 32 gfV 0 (nst 32 gfE j st)) 3) (nst 32 gfE 3 st) hl
  ·exact agy h C i (qfA g (fun j => rvl 32 gfV 0 (nst 32 gfE j st)) 4) (nst 32 gfE 4 st) hl
 ·have e : m = 5 := by omega
  subst e
  exact .inr (Wi h C i _ _ _)
theorem Vn (h : QH) (C : List Value) (i : Nat) (g : GT) (sb : LU0) (e : Int) : qy (qCr h C i g sb e 3).aa (.exit 4) (qBr h C i g sb e).aa :=
 Ca [] 554 [2, 4, 7, 8, 9, 31, 32] [0, 23, 244, 254, 24] trivial
theorem VV (h : QH) (C : List Value) (i : Nat) (g : GT) (st : Int × LU0) (h0 : st.1 = 0 -> 12 <= st.2.length) : Sound prog 0 false (.loop (pS f9 2)) (qCr h C i (qfB g (fun j => rvl 4 wV 0 (nst 4 noE j st)) 0) st.2 st.1 0).aa (.exit 4) (qBr h C i (qfB g (fun j => rvl 4 wV 0 (nst 4 noE j st)) 3) (nst 4 noE 3 st).2 (nst 4 noE 3 st).1).aa := by
 have hh := qk (P := prog) (fb := 0) (rd := false) (body := (pS f9 2)) (ex := .exit 4) (E := qBr h C i (qfB g (fun j => rvl 4 wV 0 (nst 4 noE j st)) 3) (nst 4 noE 3 st).2 (nst 4 noE 3 st).1) (m := fun y : { i : Nat // i <= 3 } => 3 - y.val) (fun y => qCr h C i (qfB g (fun j => rvl 4 wV 0 (nst 4 noE j st)) y.val) (nst 4 noE y.val st).2 (nst 4 noE y.val st).1 (y.val : Int)) (by simp) (fun y => ?_) ⟨0, by omega⟩
 ·exact hh
 obtain ⟨m, hi⟩ := y
 by_cases e : m < 3
 ·refine .inl ⟨⟨m + 1, e⟩, by show 3 - (m + 1) < 3 - m; omega, ?_⟩
  have hl := O4 st h0 m e
  have e : m = 0 ∨ m = 1 ∨ m = 2 := by omega
  rcases e with rfl | rfl | rfl
  ·exact afK h C i (qfB g (fun j => rvl 4 wV 0 (nst 4 noE j st)) 0) (nst 4 noE 0 st) hl
  ·exact afe h C i (qfB g (fun j => rvl 4 wV 0 (nst 4 noE j st)) 1) (nst 4 noE 1 st) hl
  ·exact agf h C i (qfB g (fun j => rvl 4 wV 0 (nst 4 noE j st)) 2) (nst 4 noE 2 st) hl
 ·have e : m = 3 := by omega
  subst e
  exact .inr (Vn h C i _ _ _)
end Go.Proofs.YtokjhbmmdmeafaaGreat
