/- Pruned: ZhGq1. -/
import Derived.Test.YtokjhbmmdmeafaaGreatQGf
import Derived.Test.YtokjhbmmdmeafaaGreatQGl
import Derived.Test.YtokjhbmmdmeafaaGreatQGa
set_option linter.unusedSimpArgs false
set_option linter.unusedVariables false
namespace Go.Proofs.YtokjhbmmdmeafaaGreat
open Go.Ev Go.RowKit
open Tryz
abbrev Si (v : Value) : Prop := true = true /\ true = true /\ [v] = [v]
abbrev sB (n : Nat) : Prop := true = true /\ n = n
abbrev CR (t : Nat) (l : List Ch) : Prop := t = t /\ flat l = flat l
abbrev AG (v : Value) : Prop := v = v
def wV (c : LU0) : Int := if c4 c = 4294967295 then -1 else ((c4 c : Nat) : Int)
def noE (c : LU0) : Int := 0
theorem Cc (l : LU0) (i : Nat) (h : i < 4) : cn (l.take 4) i = cn l i := by
 unfold cn
 rw [List.getD_eq_getElem?_getD, List.getD_eq_getElem?_getD, List.getElem?_take, if_pos h]
theorem Lc (l : LU0) : c4 (l.take 4) = c4 l := by
 unfold c4
 rw [Cc l 0 (by omega), Cc l 1 (by omega), Cc l 2 (by omega), Cc l 3 (by omega)]
theorem Aw {l : LU0} (h : c4 l = 4294967295) : wV (l.take 4) = -1 := by
 unfold wV; rw [Lc, if_pos h]
theorem Ar {l : LU0} (h : c4 l ≠ 4294967295) : wV (l.take 4) = ((c4 l : Nat) : Int) := by
 unfold wV; rw [Lc, if_neg h]
structure QH where
 N : Nat
 pub : Int
 vs : Int
 u : Int
def zcL : List Ch := [.c (.slice none 0 0), ci0 0, ci0 0]
def g0L : List Ch := List.replicate 20 (.c (.int .u64 0)) ++ List.replicate 3 (ci0 0)
def gt0 : GT := ⟨0, 0, 0, 0, 0, 0, 0, 0⟩
theorem KN : flat g0L = flat (gP gt0) := by kernel_rfl
def qOz (h : QH) (sb : LU0) (e : Int) : LState := { n := 98, sl := [(2, .p 0 0), (4, .p 23 0), (7, .v (.int .u32 h.u)), (8, .p 244 0), (31, vi0 (h.N : Int)), (32, vi0 0)], hp := [(0, .own zcL 49), (23, .own [.c (.string (ofL sb)), ci0 e] 85), (244, .own [.c (.slice none 0 0), ci0 h.pub, ci0 h.vs] 49)] }
def qEz (h : QH) (sb : LU0) (e : Int) : LState := { n := 98, sl := [(2, .p 0 0), (4, .p 23 0), (7, .v (.int .u32 h.u)), (8, .p 244 0)], hp := [(0, .own zcL 49), (23, .own [.c (.string (ofL sb)), ci0 e] 85), (244, .own [.c (.slice none 0 0), ci0 h.pub, ci0 h.vs] 49)] }
def qAz (h : QH) (g : GT) (sb : LU0) (e j : Int) : LState := { n := 98, sl := [(2, .p 0 0), (4, .p 23 0), (7, .v (.int .u32 h.u)), (8, .p 244 0), (9, .p 254 0), (31, vi0 (h.N : Int)), (32, vi0 0), (44, .ag [.p 254 0, .p 254 4, .p 254 8, .p 254 12, .p 254 16]), (45, vi0 j)], hp := [(0, .own zcL 49), (23, .own [.c (.string (ofL sb)), ci0 e] 85), (244, .own [.c (.slice none 0 0), ci0 h.pub, ci0 h.vs] 49), (254, .own (gP g) 94)] }
def qBz (h : QH) (g : GT) (sb : LU0) (e : Int) : LState := { n := 98, sl := [(2, .p 0 0), (4, .p 23 0), (7, .v (.int .u32 h.u)), (8, .p 244 0), (9, .p 254 0), (31, vi0 (h.N : Int)), (32, vi0 0)], hp := [(0, .own zcL 49), (23, .own [.c (.string (ofL sb)), ci0 e] 85), (244, .own [.c (.slice none 0 0), ci0 h.pub, ci0 h.vs] 49), (254, .own (gP g) 94)] }
def qCz (h : QH) (g : GT) (sb : LU0) (e j : Int) : LState := { n := 98, sl := [(2, .p 0 0), (4, .p 23 0), (7, .v (.int .u32 h.u)), (8, .p 244 0), (9, .p 254 0), (31, vi0 (h.N : Int)), (32, vi0 0), (53, vi0 j)], hp := [(0, .own zcL 49), (23, .own [.c (.string (ofL sb)), ci0 e] 85), (244, .own [.c (.slice none 0 0), ci0 h.pub, ci0 h.vs] 49), (254, .own (gP g) 94)] }
def qJz (h : QH) (sb : LU0) : LState := { n := 98, sl := [(2, .p 0 0), (4, .p 23 0), (7, .v (.int .u32 h.u)), (8, .p 244 0), (9, .p 254 0), (31, vi0 (h.N : Int)), (32, vi0 0), (44, .ag [.p 254 0, .p 254 4, .p 254 8, .p 254 12, .p 254 16]), (45, vi0 0)], hp := [(0, .own zcL 49), (23, .own [.c (.string (ofL sb)), ci0 0] 85), (244, .own [.c (.slice none 0 0), ci0 h.pub, ci0 h.vs] 49), (254, .own g0L 94)] }
def qOr (h : QH) (C : List Value) (i : Nat) (sb : LU0) (e : Int) : LState := { n := 98, sl := [(2, .p 0 0), (4, .p 23 0), (7, .v (.int .u32 h.u)), (8, .p 244 0), (31, vi0 (h.N : Int)), (32, vi0 (i : Int))], hp := [(0, .own zcL 49), (23, .own [.c (.string (ofL sb)), ci0 e] 85), (244, .own [.sx 24 i, ci0 h.pub, ci0 h.vs] 49), (24, .gr [.l C] 94 23)] }
def qEr (h : QH) (C : List Value) (i : Nat) (sb : LU0) (e : Int) : LState := { n := 98, sl := [(2, .p 0 0), (4, .p 23 0), (7, .v (.int .u32 h.u)), (8, .p 244 0)], hp := [(0, .own zcL 49), (23, .own [.c (.string (ofL sb)), ci0 e] 85), (244, .own [.sx 24 i, ci0 h.pub, ci0 h.vs] 49), (24, .gr [.l C] 94 23)] }
def qAr (h : QH) (C : List Value) (i : Nat) (g : GT) (sb : LU0) (e j : Int) : LState := { n := 98, sl := [(2, .p 0 0), (4, .p 23 0), (7, .v (.int .u32 h.u)), (8, .p 244 0), (9, .p 254 0), (31, vi0 (h.N : Int)), (32, vi0 (i : Int)), (44, .ag [.p 254 0, .p 254 4, .p 254 8, .p 254 12, .p 254 16]), (45, vi0 j)], hp := [(0, .own zcL 49), (23, .own [.c (.string (ofL sb)), ci0 e] 85), (244, .own [.sx 24 i, ci0 h.pub, ci0 h.vs] 49), (254, .own (gP g) 94), (24, .gr [.l C] 94 23)] }
def qBr (h : QH) (C : List Value) (i : Nat) (g : GT) (sb : LU0) (e : Int) : LState := { n := 98, sl := [(2, .p 0 0), (4, .p 23 0), (7, .v (.int .u32 h.u)), (8, .p 244 0), (9, .p 254 0), (31, vi0 (h.N : Int)), (32, vi0 (i : Int))], hp := [(0, .own zcL 49), (23, .own [.c (.string (ofL sb)), ci0 e] 85), (244, .own [.sx 24 i, ci0 h.pub, ci0 h.vs] 49), (254, .own (gP g) 94), (24, .gr [.l C] 94 23)] }
def qCr (h : QH) (C : List Value) (i : Nat) (g : GT) (sb : LU0) (e j : Int) : LState := { n := 98, sl := [(2, .p 0 0), (4, .p 23 0), (7, .v (.int .u32 h.u)), (8, .p 244 0), (9, .p 254 0), (31, vi0 (h.N : Int)), (32, vi0 (i : Int)), (53, vi0 j)], hp := [(0, .own zcL 49), (23, .own [.c (.string (ofL sb)), ci0 e] 85), (244, .own [.sx 24 i, ci0 h.pub, ci0 h.vs] 49), (254, .own (gP g) 94), (24, .gr [.l C] 94 23)] }
def qJr (h : QH) (C : List Value) (i : Nat) (sb : LU0) : LState := { n := 98, sl := [(2, .p 0 0), (4, .p 23 0), (7, .v (.int .u32 h.u)), (8, .p 244 0), (9, .p 254 0), (31, vi0 (h.N : Int)), (32, vi0 (i : Int)), (44, .ag [.p 254 0, .p 254 4, .p 254 8, .p 254 12, .p 254 16]), (45, vi0 0)], hp := [(0, .own zcL 49), (23, .own [.c (.string (ofL sb)), ci0 0] 85), (244, .own [.sx 24 i, ci0 h.pub, ci0 h.vs] 49), (254, .own g0L 94), (24, .gr [.l C] 94 23)] }
def z4G : List Ch := List.replicate 4 (.c (.int .u64 0))
theorem qR {os : Nat -> Ora} {c : Code} {I J : LState} {ex : Ex} {ob : Prop} (h : vZ prog (qa _) [v9] 3 os 0 false c 262 I J [] = some (ex, ob)) (hob : ob) : Sound prog 0 false c I.aa ex J.aa := rh (P := prog) (X := qa _) (env := [v9]) ⟨uU, tt0⟩ h hob
theorem qFz (h : QH) (j k : Int) (hk : Value.int .i64 (IntKind.i64.wrap (j + 1)) = Value.int .i64 k) {sb : LU0} {e : Int} {a b : List Ch} (hf : flat a = flat b) : ((sB 0) /\ (sB 0) /\ (AG (.int .u32 h.u)) /\ (sB 0) /\ (sB 0) /\ (AG (.int .i64 (h.N : Int))) /\ (AG (.int .i64 0)) /\ ((sB 0) /\ (sB 4) /\ (sB 8) /\ (sB 12) /\ (sB 16) /\ True) /\ (Value.int .i64 (IntKind.i64.wrap (j + 1))) = (Value.int .i64 k) /\ True) /\ ((CR 49 zcL) /\ (CR 85 [.c (.string (ofL sb)), ci0 e]) /\ (CR 49 [.c (.slice none 0 0), ci0 h.pub, ci0 h.vs]) /\ (94 = 94 /\ flat a = flat b) /\ True) :=
 ⟨⟨rr0, rr0, rfl, rr0, rr0, rfl, rfl, ⟨rr0, rr0, rr0, rr0, rr0, tt0⟩, hk, tt0⟩, ⟨rr0, rr0, rr0, ⟨rfl, hf⟩, tt0⟩⟩
theorem qFr (h : QH) (C : List Value) (i : Nat) (j k : Int) (hk : Value.int .i64 (IntKind.i64.wrap (j + 1)) = Value.int .i64 k) {sb : LU0} {e : Int} {a b : List Ch} (hf : flat a = flat b) : ((sB 0) /\ (sB 0) /\ (AG (.int .u32 h.u)) /\ (sB 0) /\ (sB 0) /\ (AG (.int .i64 (h.N : Int))) /\ (AG (.int .i64 (i : Int))) /\ ((sB 0) /\ (sB 4) /\ (sB 8) /\ (sB 12) /\ (sB 16) /\ True) /\ (Value.int .i64 (IntKind.i64.wrap (j + 1))) = (Value.int .i64 k) /\ True) /\ ((CR 49 zcL) /\ (CR 85 [.c (.string (ofL sb)), ci0 e]) /\ (49 = 49 /\ (sB i) /\ (Si (.int .i64 h.pub)) /\ (Si (.int .i64 h.vs)) /\ True) /\ (94 = 94 /\ flat a = flat b) /\ ((94 = 94 /\ 23 = 23) /\ flat [.l C] = flat [.l C]) /\ True) :=
 ⟨⟨rr0, rr0, rfl, rr0, rr0, rfl, rfl, ⟨rr0, rr0, rr0, rr0, rr0, tt0⟩, hk, tt0⟩, ⟨rr0, rr0, ⟨rfl, rr0, r30, r30, tt0⟩, ⟨rfl, hf⟩, ⟨rr0, rfl⟩, tt0⟩⟩
abbrev qn (a : AA) (e : Ex) (b : AA) : Prop := Sound prog 0 false (qc f9 1) a e b
theorem acq (h : QH) (g : GT) (sb : LU0) (e : Int) (hl : 32 <= sb.length) (h0 : (gfE (sb.take 32)) = 0) : qn (qAz h g sb 0 0).aa .normal (qAz h { g with q0 := (gfV (sb.take 32)) } (sb.drop 32) (gfE (sb.take 32)) 1).aa :=
 qR (os := oL [(281, rO 5 0), (295, rO 5 0), (313, wF)]) (by kernel_rfl) (ai (qFz h 0 1 rfl (sb := (sb.drop 32)) (e := (gfE (sb.take 32))) (a := ins (gP g) 0 1 ([.n 4 (gfV (sb.take 32))])) (b := gP { g with q0 := (gfV (sb.take 32)) }) (by kernel_rfl)) (ai (eqz h0) (ai (pZ hl) (ai (pZ hl) tt0))))
theorem ZL (h : QH) (g : GT) (sb : LU0) (e : Int) (hl : 32 <= sb.length) (h0 : (gfE (sb.take 32)) ≠ 0) : qn (qAz h g sb 0 0).aa .normal (qAz h { g with q0 := (gfV (sb.take 32)) } (sb.drop 32) (gfE (sb.take 32)) 1).aa :=
 qR (os := oL [(281, rO 5 0), (295, rO 5 0), (313, wT)]) (by kernel_rfl) (ai (qFz h 0 1 rfl (sb := (sb.drop 32)) (e := (gfE (sb.take 32))) (a := ins (gP g) 0 1 (z4G)) (b := gP { g with q0 := (gfV (sb.take 32)) }) (by rw [rI h0]; kernel_rfl)) (ai (nez h0) (ai (pZ hl) (ai (pZ hl) tt0))))
theorem Zc (h : QH) (g : GT) (sb : LU0) (e : Int) (h0 : e ≠ 0) : qn (qAz h g sb e 0).aa .normal (qAz h { g with q0 := 0 } sb e 1).aa :=
 qR (os := oL [(274, wT)]) (by kernel_rfl) (ai (qFz h 0 1 rfl (sb := sb) (e := e) (a := ins (gP g) 0 1 (z4G)) (b := gP { g with q0 := 0 }) (by kernel_rfl)) (ai (nez h0) tt0))
theorem adD (h : QH) (g : GT) (st : Int × LU0) (hl : st.1 = 0 -> 32 <= st.2.length) : qn (qAz h g st.2 st.1 0).aa .normal (qAz h { g with q0 := rvl 32 gfV 0 st } (rst 32 gfE st).2 (rst 32 gfE st).1 1).aa := by
 obtain ⟨e, sb⟩ := st
 by_cases h0 : e = 0
 ·subst h0
  by_cases h1 : gfE (sb.take 32) = 0
  ·exact acq h g sb 0 (hl rfl) h1
  ·exact ZL h g sb 0 (hl rfl) h1
 ·rw [show rst 32 gfE (e, sb) = (e, sb) from if_neg h0, show rvl 32 gfV 0 (e, sb) = 0 from if_neg h0]
  exact Zc h g sb e h0
theorem Zx (h : QH) (g : GT) (sb : LU0) (e : Int) (hl : 32 <= sb.length) (h0 : (gfE (sb.take 32)) = 0) : qn (qAz h g sb 0 1).aa .normal (qAz h { g with q1 := (gfV (sb.take 32)) } (sb.drop 32) (gfE (sb.take 32)) 2).aa :=
 qR (os := oL [(281, rO 5 0), (295, rO 5 0), (313, wF)]) (by kernel_rfl) (ai (qFz h 1 2 rfl (sb := (sb.drop 32)) (e := (gfE (sb.take 32))) (a := ins (gP g) 1 1 ([.n 4 (gfV (sb.take 32))])) (b := gP { g with q1 := (gfV (sb.take 32)) }) (by kernel_rfl)) (ai (eqz h0) (ai (pZ hl) (ai (pZ hl) tt0))))
theorem Zt (h : QH) (g : GT) (sb : LU0) (e : Int) (hl : 32 <= sb.length) (h0 : (gfE (sb.take 32)) ≠ 0) : qn (qAz h g sb 0 1).aa .normal (qAz h { g with q1 := (gfV (sb.take 32)) } (sb.drop 32) (gfE (sb.take 32)) 2).aa :=
 qR (os := oL [(281, rO 5 0), (295, rO 5 0), (313, wT)]) (by kernel_rfl) (ai (qFz h 1 2 rfl (sb := (sb.drop 32)) (e := (gfE (sb.take 32))) (a := ins (gP g) 1 1 (z4G)) (b := gP { g with q1 := (gfV (sb.take 32)) }) (by rw [rI h0]; kernel_rfl)) (ai (nez h0) (ai (pZ hl) (ai (pZ hl) tt0))))
theorem aaS (h : QH) (g : GT) (sb : LU0) (e : Int) (h0 : e ≠ 0) : qn (qAz h g sb e 1).aa .normal (qAz h { g with q1 := 0 } sb e 2).aa :=
 qR (os := oL [(274, wT)]) (by kernel_rfl) (ai (qFz h 1 2 rfl (sb := sb) (e := e) (a := ins (gP g) 1 1 (z4G)) (b := gP { g with q1 := 0 }) (by kernel_rfl)) (ai (nez h0) tt0))
theorem adi (h : QH) (g : GT) (st : Int × LU0) (hl : st.1 = 0 -> 32 <= st.2.length) : qn (qAz h g st.2 st.1 1).aa .normal (qAz h { g with q1 := rvl 32 gfV 0 st } (rst 32 gfE st).2 (rst 32 gfE st).1 2).aa := by
 obtain ⟨e, sb⟩ := st
 by_cases h0 : e = 0
 ·subst h0
  by_cases h1 : gfE (sb.take 32) = 0
  ·exact Zx h g sb 0 (hl rfl) h1
  ·exact Zt h g sb 0 (hl rfl) h1
 ·rw [show rst 32 gfE (e, sb) = (e, sb) from if_neg h0, show rvl 32 gfV 0 (e, sb) = 0 from if_neg h0]
  exact aaS h g sb e h0
theorem abh (h : QH) (g : GT) (sb : LU0) (e : Int) (hl : 32 <= sb.length) (h0 : (gfE (sb.take 32)) = 0) : qn (qAz h g sb 0 2).aa .normal (qAz h { g with q2 := (gfV (sb.take 32)) } (sb.drop 32) (gfE (sb.take 32)) 3).aa :=
 qR (os := oL [(281, rO 5 0), (295, rO 5 0), (313, wF)]) (by kernel_rfl) (ai (qFz h 2 3 rfl (sb := (sb.drop 32)) (e := (gfE (sb.take 32))) (a := ins (gP g) 2 1 ([.n 4 (gfV (sb.take 32))])) (b := gP { g with q2 := (gfV (sb.take 32)) }) (by kernel_rfl)) (ai (eqz h0) (ai (pZ hl) (ai (pZ hl) tt0))))
theorem aaM (h : QH) (g : GT) (sb : LU0) (e : Int) (hl : 32 <= sb.length) (h0 : (gfE (sb.take 32)) ≠ 0) : qn (qAz h g sb 0 2).aa .normal (qAz h { g with q2 := (gfV (sb.take 32)) } (sb.drop 32) (gfE (sb.take 32)) 3).aa :=
 qR (os := oL [(281, rO 5 0), (295, rO 5 0), (313, wT)]) (by kernel_rfl) (ai (qFz h 2 3 rfl (sb := (sb.drop 32)) (e := (gfE (sb.take 32))) (a := ins (gP g) 2 1 (z4G)) (b := gP { g with q2 := (gfV (sb.take 32)) }) (by rw [rI h0]; kernel_rfl)) (ai (nez h0) (ai (pZ hl) (ai (pZ hl) tt0))))
theorem aaX (h : QH) (g : GT) (sb : LU0) (e : Int) (h0 : e ≠ 0) : qn (qAz h g sb e 2).aa .normal (qAz h { g with q2 := 0 } sb e 3).aa :=
 qR (os := oL [(274, wT)]) (by kernel_rfl) (ai (qFz h 2 3 rfl (sb := sb) (e := e) (a := ins (gP g) 2 1 (z4G)) (b := gP { g with q2 := 0 }) (by kernel_rfl)) (ai (nez h0) tt0))
theorem acO (h : QH) (g : GT) (st : Int × LU0) (hl : st.1 = 0 -> 32 <= st.2.length) : qn (qAz h g st.2 st.1 2).aa .normal (qAz h { g with q2 := rvl 32 gfV 0 st } (rst 32 gfE st).2 (rst 32 gfE st).1 3).aa := by
 obtain ⟨e, sb⟩ := st
 by_cases h0 : e = 0
 ·subst h0
  by_cases h1 : gfE (sb.take 32) = 0
  ·exact abh h g sb 0 (hl rfl) h1
  ·exact aaM h g sb 0 (hl rfl) h1
 ·rw [show rst 32 gfE (e, sb) = (e, sb) from if_neg h0, show rvl 32 gfV 0 (e, sb) = 0 from if_neg h0]
  exact aaX h g sb e h0
theorem aaH (h : QH) (g : GT) (sb : LU0) (e : Int) (hl : 32 <= sb.length) (h0 : (gfE (sb.take 32)) = 0) : qn (qAz h g sb 0 3).aa .normal (qAz h { g with q3 := (gfV (sb.take 32)) } (sb.drop 32) (gfE (sb.take 32)) 4).aa :=
 qR (os := oL [(281, rO 5 0), (295, rO 5 0), (313, wF)]) (by kernel_rfl) (ai (qFz h 3 4 rfl (sb := (sb.drop 32)) (e := (gfE (sb.take 32))) (a := ins (gP g) 3 1 ([.n 4 (gfV (sb.take 32))])) (b := gP { g with q3 := (gfV (sb.take 32)) }) (by kernel_rfl)) (ai (eqz h0) (ai (pZ hl) (ai (pZ hl) tt0))))
theorem aaQ (h : QH) (g : GT) (sb : LU0) (e : Int) (hl : 32 <= sb.length) (h0 : (gfE (sb.take 32)) ≠ 0) : qn (qAz h g sb 0 3).aa .normal (qAz h { g with q3 := (gfV (sb.take 32)) } (sb.drop 32) (gfE (sb.take 32)) 4).aa :=
 qR (os := oL [(281, rO 5 0), (295, rO 5 0), (313, wT)]) (by kernel_rfl) (ai (qFz h 3 4 rfl (sb := (sb.drop 32)) (e := (gfE (sb.take 32))) (a := ins (gP g) 3 1 (z4G)) (b := gP { g with q3 := (gfV (sb.take 32)) }) (by rw [rI h0]; kernel_rfl)) (ai (nez h0) (ai (pZ hl) (ai (pZ hl) tt0))))
theorem Zz (h : QH) (g : GT) (sb : LU0) (e : Int) (h0 : e ≠ 0) : qn (qAz h g sb e 3).aa .normal (qAz h { g with q3 := 0 } sb e 4).aa :=
 qR (os := oL [(274, wT)]) (by kernel_rfl) (ai (qFz h 3 4 rfl (sb := sb) (e := e) (a := ins (gP g) 3 1 (z4G)) (b := gP { g with q3 := 0 }) (by kernel_rfl)) (ai (nez h0) tt0))
theorem adh (h : QH) (g : GT) (st : Int × LU0) (hl : st.1 = 0 -> 32 <= st.2.length) : qn (qAz h g st.2 st.1 3).aa .normal (qAz h { g with q3 := rvl 32 gfV 0 st } (rst 32 gfE st).2 (rst 32 gfE st).1 4).aa := by
 obtain ⟨e, sb⟩ := st
 by_cases h0 : e = 0
 ·subst h0
  by_cases h1 : gfE (sb.take 32) = 0
  ·exact aaH h g sb 0 (hl rfl) h1
  ·exact aaQ h g sb 0 (hl rfl) h1
 ·rw [show rst 32 gfE (e, sb) = (e, sb) from if_neg h0, show rvl 32 gfV 0 (e, sb) = 0 from if_neg h0]
  exact Zz h g sb e h0
theorem acb (h : QH) (g : GT) (sb : LU0) (e : Int) (hl : 32 <= sb.length) (h0 : (gfE (sb.take 32)) = 0) : qn (qAz h g sb 0 4).aa .normal (qAz h { g with q4 := (gfV (sb.take 32)) } (sb.drop 32) (gfE (sb.take 32)) 5).aa :=
 qR (os := oL [(281, rO 5 0), (295, rO 5 0), (313, wF)]) (by kernel_rfl) (ai (qFz h 4 5 rfl (sb := (sb.drop 32)) (e := (gfE (sb.take 32))) (a := ins (gP g) 4 1 ([.n 4 (gfV (sb.take 32))])) (b := gP { g with q4 := (gfV (sb.take 32)) }) (by kernel_rfl)) (ai (eqz h0) (ai (pZ hl) (ai (pZ hl) tt0))))
theorem Z8 (h : QH) (g : GT) (sb : LU0) (e : Int) (hl : 32 <= sb.length) (h0 : (gfE (sb.take 32)) ≠ 0) : qn (qAz h g sb 0 4).aa .normal (qAz h { g with q4 := (gfV (sb.take 32)) } (sb.drop 32) (gfE (sb.take 32)) 5).aa :=
 qR (os := oL [(281, rO 5 0), (295, rO 5 0), (313, wT)]) (by kernel_rfl) (ai (qFz h 4 5 rfl (sb := (sb.drop 32)) (e := (gfE (sb.take 32))) (a := ins (gP g) 4 1 (z4G)) (b := gP { g with q4 := (gfV (sb.take 32)) }) (by rw [rI h0]; kernel_rfl)) (ai (nez h0) (ai (pZ hl) (ai (pZ hl) tt0))))
theorem abp (h : QH) (g : GT) (sb : LU0) (e : Int) (h0 : e ≠ 0) : qn (qAz h g sb e 4).aa .normal (qAz h { g with q4 := 0 } sb e 5).aa :=
 qR (os := oL [(274, wT)]) (by kernel_rfl) (ai (qFz h 4 5 rfl (sb := sb) (e := e) (a := ins (gP g) 4 1 (z4G)) (b := gP { g with q4 := 0 }) (by kernel_rfl)) (ai (nez h0) tt0))
theorem ac5 (h : QH) (g : GT) (st : Int × LU0) (hl : st.1 = 0 -> 32 <= st.2.length) : qn (qAz h g st.2 st.1 4).aa .normal (qAz h { g with q4 := rvl 32 gfV 0 st } (rst 32 gfE st).2 (rst 32 gfE st).1 5).aa := by
 obtain ⟨e, sb⟩ := st
 by_cases h0 : e = 0
 ·subst h0
  by_cases h1 : gfE (sb.take 32) = 0
  ·exact acb h g sb 0 (hl rfl) h1
  ·exact Z8 h g sb 0 (hl rfl) h1
 ·rw [show rst 32 gfE (e, sb) = (e, sb) from if_neg h0, show rvl 32 gfV 0 (e, sb) = 0 from if_neg h0]
  exact abp h g sb e h0
def OY {sb : LU0} {m : Nat} (hm : c4 sb = m) (h4 : 4 <= sb.length) := PLift.up (ai (show decide (((m : Nat) : Int) > 4294967295) = false from decide_eq_false (by have := Ew sb; omega)) (ai (cs4 h4) (ai (zi hm) (ai (cw sb 3) (ai (cid 3 h4 (by decide)) (ai (zo sb) (ai (Cx (qU sb 2)) (ai (cw sb 2) (ai (cid 2 h4 (by decide)) (ai (zb sb) (ai (zn (qU sb 1)) (ai (cw sb 1) (ai (cid 1 h4 (by decide)) (ai (zg (qU sb 0)) (ai (cw sb 0) (ai (cid 0 h4 (by decide)) (ai (clt h4) tt0)))))))))))))))))
def AY (sb : LU0) (m : Nat) : LO0 := [(572, wF), (583, rO 1 (cn sb 0)), (584, tn (cn sb 0)), (585, tn (cn sb 0 * 16777216)), (590, rO 1 (cn sb 1)), (591, tn (cn sb 1)), (592, tn (cn sb 1 * 65536)), (593, tn (co1 sb)), (598, rO 1 (cn sb 2)), (599, tn (cn sb 2)), (600, tn (cn sb 2 * 256)), (601, tn (co2 sb)), (606, rO 1 (cn sb 3)), (607, tn (cn sb 3)), (608, tn (m)), (615, rO 5 0), (621, wF), (627, wF), (629, { ch := 1, hi := fun _ => m })]
def Au {sb : LU0} {m : Nat} (hm : c4 sb = m) (h4 : 4 <= sb.length) (h0 : m ≠ 4294967295) := PLift.up (ai (show IntKind.i64.wrap ((m : Nat) : Int) = ((m : Nat) : Int) from rH (by have := Ew sb; omega)) (ai (show (((m : Nat) : Int) == 4294967295) = false from beq_eq_false_iff_ne.2 (by omega))
   (OY hm h4).down))
theorem rJ {c : Code} {I L : LState} {ex : Ex} {b : Prop} (o : LO0) (k : Nat) (sk hk : List Nat) (hb : b) (h : uG prog (qa _) [] 3 (oL o) 0 false c k I sk hk [] = some (ex, L, b) := by kernel_rfl) : Sound prog 0 false c I.aa ex L.aa := p9 (P := prog) (X := qa _) (env := []) trivial h hb
abbrev qJ (a : AA) (e : Ex) (b : AA) : Prop := Sound prog 0 false (qc f9 2) a e b
theorem aau (h : QH) (g : GT) (sb : LU0) (e : Int) (m : Nat) (hm : c4 sb = m) (h4 : 4 <= sb.length) (h0 : m ≠ 4294967295) : qJ (qCz h g sb 0 0).aa .normal (qCz h { g with w0 := ((m : Nat) : Int) } (sb.drop 4) 0 1).aa :=
 rJ (AY sb m) 554 [2, 4, 7, 8, 9, 31, 32, 53] [0, 23, 244, 254] (Au hm h4 h0).down
def AB (sb : LU0) (m : Nat) : LO0 := [(572, wF), (583, rO 1 (cn sb 0)), (584, tn (cn sb 0)), (585, tn (cn sb 0 * 16777216)), (590, rO 1 (cn sb 1)), (591, tn (cn sb 1)), (592, tn (cn sb 1 * 65536)), (593, tn (co1 sb)), (598, rO 1 (cn sb 2)), (599, tn (cn sb 2)), (600, tn (cn sb 2 * 256)), (601, tn (co2 sb)), (606, rO 1 (cn sb 3)), (607, tn (cn sb 3)), (608, tn (m)), (615, rO 5 0), (621, wF), (627, wT)]
def AE {sb : LU0} {m : Nat} (hm : c4 sb = m) (h4 : 4 <= sb.length) (h0 : m = 4294967295) := PLift.up (ai (show (((m : Nat) : Int) == 4294967295) = true from beq_iff_eq.2 (by omega))
   (OY hm h4).down)
theorem aao (h : QH) (g : GT) (sb : LU0) (e : Int) (m : Nat) (hm : c4 sb = m) (h4 : 4 <= sb.length) (h0 : m = 4294967295) : qJ (qCz h g sb 0 0).aa .normal (qCz h { g with w0 := (-1) } (sb.drop 4) 0 1).aa :=
 rJ (AB sb m) 554 [2, 4, 7, 8, 9, 31, 32, 53] [0, 23, 244, 254] (AE hm h4 h0).down
def Ak {e : Int} (h0 : e ≠ 0) := PLift.up (ai (show (e != 0) = true from by simpa using h0) (ai (show (e == 0) = false from by simpa using h0) tt0))
def Bc : LO0 := [(565, wF), (578, wT)]
theorem acl (h : QH) (g : GT) (sb : LU0) (e : Int) (h0 : e ≠ 0) : qJ (qCz h g sb e 0).aa .normal (qCz h { g with w0 := 0 } sb e 1).aa :=
 rJ Bc 554 [2, 4, 7, 8, 9, 31, 32, 53] [0, 23, 244, 254] (Ak h0).down
theorem acK (h : QH) (g : GT) (st : Int × LU0) (hl : st.1 = 0 -> 4 <= st.2.length) : qJ (qCz h g st.2 st.1 0).aa .normal (qCz h { g with w0 := rvl 4 wV 0 st } (rst 4 noE st).2 (rst 4 noE st).1 1).aa := by
 obtain ⟨e, sb⟩ := st
 by_cases h0 : e = 0
 ·subst h0
  rw [show rst 4 noE (0, sb) = (0, sb.drop 4) from rfl, show rvl 4 wV 0 (0, sb) = wV (sb.take 4) from if_pos rfl]
  by_cases h1 : c4 sb = 4294967295
  ·rw [Aw h1]; exact aao h g sb 0 _ rfl (hl rfl) h1
  ·rw [Ar h1]; exact aau h g sb 0 _ rfl (hl rfl) h1
 ·rw [show rst 4 noE (e, sb) = (e, sb) from if_neg h0, show rvl 4 wV 0 (e, sb) = 0 from if_neg h0]
  exact acl h g sb e h0
theorem aa0 (h : QH) (g : GT) (sb : LU0) (e : Int) (m : Nat) (hm : c4 sb = m) (h4 : 4 <= sb.length) (h0 : m ≠ 4294967295) : qJ (qCz h g sb 0 1).aa .normal (qCz h { g with w1 := ((m : Nat) : Int) } (sb.drop 4) 0 2).aa :=
 rJ (AY sb m) 554 [2, 4, 7, 8, 9, 31, 32, 53] [0, 23, 244, 254] (Au hm h4 h0).down
theorem YV (h : QH) (g : GT) (sb : LU0) (e : Int) (m : Nat) (hm : c4 sb = m) (h4 : 4 <= sb.length) (h0 : m = 4294967295) : qJ (qCz h g sb 0 1).aa .normal (qCz h { g with w1 := (-1) } (sb.drop 4) 0 2).aa :=
 rJ (AB sb m) 554 [2, 4, 7, 8, 9, 31, 32, 53] [0, 23, 244, 254] (AE hm h4 h0).down
theorem ab8 (h : QH) (g : GT) (sb : LU0) (e : Int) (h0 : e ≠ 0) : qJ (qCz h g sb e 1).aa .normal (qCz h { g with w1 := 0 } sb e 2).aa :=
 rJ Bc 554 [2, 4, 7, 8, 9, 31, 32, 53] [0, 23, 244, 254] (Ak h0).down
theorem ac1 (h : QH) (g : GT) (st : Int × LU0) (hl : st.1 = 0 -> 4 <= st.2.length) : qJ (qCz h g st.2 st.1 1).aa .normal (qCz h { g with w1 := rvl 4 wV 0 st } (rst 4 noE st).2 (rst 4 noE st).1 2).aa := by
 obtain ⟨e, sb⟩ := st
 by_cases h0 : e = 0
 ·subst h0
  rw [show rst 4 noE (0, sb) = (0, sb.drop 4) from rfl, show rvl 4 wV 0 (0, sb) = wV (sb.take 4) from if_pos rfl]
  by_cases h1 : c4 sb = 4294967295
  ·rw [Aw h1]; exact YV h g sb 0 _ rfl (hl rfl) h1
  ·rw [Ar h1]; exact aa0 h g sb 0 _ rfl (hl rfl) h1
 ·rw [show rst 4 noE (e, sb) = (e, sb) from if_neg h0, show rvl 4 wV 0 (e, sb) = 0 from if_neg h0]
  exact ab8 h g sb e h0
theorem Zv (h : QH) (g : GT) (sb : LU0) (e : Int) (m : Nat) (hm : c4 sb = m) (h4 : 4 <= sb.length) (h0 : m ≠ 4294967295) : qJ (qCz h g sb 0 2).aa .normal (qCz h { g with w2 := ((m : Nat) : Int) } (sb.drop 4) 0 3).aa :=
 rJ (AY sb m) 554 [2, 4, 7, 8, 9, 31, 32, 53] [0, 23, 244, 254] (Au hm h4 h0).down
theorem Z9 (h : QH) (g : GT) (sb : LU0) (e : Int) (m : Nat) (hm : c4 sb = m) (h4 : 4 <= sb.length) (h0 : m = 4294967295) : qJ (qCz h g sb 0 2).aa .normal (qCz h { g with w2 := (-1) } (sb.drop 4) 0 3).aa :=
 rJ (AB sb m) 554 [2, 4, 7, 8, 9, 31, 32, 53] [0, 23, 244, 254] (AE hm h4 h0).down
theorem aaK (h : QH) (g : GT) (sb : LU0) (e : Int) (h0 : e ≠ 0) : qJ (qCz h g sb e 2).aa .normal (qCz h { g with w2 := 0 } sb e 3).aa :=
 rJ Bc 554 [2, 4, 7, 8, 9, 31, 32, 53] [0, 23, 244, 254] (Ak h0).down
theorem acL (h : QH) (g : GT) (st : Int × LU0) (hl : st.1 = 0 -> 4 <= st.2.length) : qJ (qCz h g st.2 st.1 2).aa .normal (qCz h { g with w2 := rvl 4 wV 0 st } (rst 4 noE st).2 (rst 4 noE st).1 3).aa := by
 obtain ⟨e, sb⟩ := st
 by_cases h0 : e = 0
 ·subst h0
  rw [show rst 4 noE (0, sb) = (0, sb.drop 4) from rfl, show rvl 4 wV 0 (0, sb) = wV (sb.take 4) from if_pos rfl]
  by_cases h1 : c4 sb = 4294967295
  ·rw [Aw h1]; exact Z9 h g sb 0 _ rfl (hl rfl) h1
  ·rw [Ar h1]; exact Zv h g sb 0 _ rfl (hl rfl) h1
 ·rw [show rst 4 noE (e, sb) = (e, sb) from if_neg h0, show rvl 4 wV 0 (e, sb) = 0 from if_neg h0]
  exact aaK h g sb e h0
theorem aa5 (h : QH) (C : List Value) (i : Nat) (g : GT) (sb : LU0) (e : Int) (hl : 32 <= sb.length) (h0 : (gfE (sb.take 32)) = 0) : qn (qAr h C i g sb 0 0).aa .normal (qAr h C i { g with q0 := (gfV (sb.take 32)) } (sb.drop 32) (gfE (sb.take 32)) 1).aa :=
 qR (os := oL [(281, rO 5 0), (295, rO 5 0), (313, wF)]) (by kernel_rfl) (ai (qFr h C i 0 1 rfl (sb := (sb.drop 32)) (e := (gfE (sb.take 32))) (a := ins (gP g) 0 1 ([.n 4 (gfV (sb.take 32))])) (b := gP { g with q0 := (gfV (sb.take 32)) }) (by kernel_rfl)) (ai (eqz h0) (ai (pZ hl) (ai (pZ hl) tt0))))
theorem acC (h : QH) (C : List Value) (i : Nat) (g : GT) (sb : LU0) (e : Int) (hl : 32 <= sb.length) (h0 : (gfE (sb.take 32)) ≠ 0) : qn (qAr h C i g sb 0 0).aa .normal (qAr h C i { g with q0 := (gfV (sb.take 32)) } (sb.drop 32) (gfE (sb.take 32)) 1).aa :=
 qR (os := oL [(281, rO 5 0), (295, rO 5 0), (313, wT)]) (by kernel_rfl) (ai (qFr h C i 0 1 rfl (sb := (sb.drop 32)) (e := (gfE (sb.take 32))) (a := ins (gP g) 0 1 (z4G)) (b := gP { g with q0 := (gfV (sb.take 32)) }) (by rw [rI h0]; kernel_rfl)) (ai (nez h0) (ai (pZ hl) (ai (pZ hl) tt0))))
theorem YU (h : QH) (C : List Value) (i : Nat) (g : GT) (sb : LU0) (e : Int) (h0 : e ≠ 0) : qn (qAr h C i g sb e 0).aa .normal (qAr h C i { g with q0 := 0 } sb e 1).aa :=
 qR (os := oL [(274, wT)]) (by kernel_rfl) (ai (qFr h C i 0 1 rfl (sb := sb) (e := e) (a := ins (gP g) 0 1 (z4G)) (b := gP { g with q0 := 0 }) (by kernel_rfl)) (ai (nez h0) tt0))
theorem acS (h : QH) (C : List Value) (i : Nat) (g : GT) (st : Int × LU0) (hl : st.1 = 0 -> 32 <= st.2.length) : qn (qAr h C i g st.2 st.1 0).aa .normal (qAr h C i { g with q0 := rvl 32 gfV 0 st } (rst 32 gfE st).2 (rst 32 gfE st).1 1).aa := by
 obtain ⟨e, sb⟩ := st
 by_cases h0 : e = 0
 ·subst h0
  by_cases h1 : gfE (sb.take 32) = 0
  ·exact aa5 h C i g sb 0 (hl rfl) h1
  ·exact acC h C i g sb 0 (hl rfl) h1
 ·rw [show rst 32 gfE (e, sb) = (e, sb) from if_neg h0, show rvl 32 gfV 0 (e, sb) = 0 from if_neg h0]
  exact YU h C i g sb e h0
theorem aa9 (h : QH) (C : List Value) (i : Nat) (g : GT) (sb : LU0) (e : Int) (hl : 32 <= sb.length) (h0 : (gfE (sb.take 32)) = 0) : qn (qAr h C i g sb 0 1).aa .normal (qAr h C i { g with q1 := (gfV (sb.take 32)) } (sb.drop 32) (gfE (sb.take 32)) 2).aa :=
 qR (os := oL [(281, rO 5 0), (295, rO 5 0), (313, wF)]) (by kernel_rfl) (ai (qFr h C i 1 2 rfl (sb := (sb.drop 32)) (e := (gfE (sb.take 32))) (a := ins (gP g) 1 1 ([.n 4 (gfV (sb.take 32))])) (b := gP { g with q1 := (gfV (sb.take 32)) }) (by kernel_rfl)) (ai (eqz h0) (ai (pZ hl) (ai (pZ hl) tt0))))
theorem acu (h : QH) (C : List Value) (i : Nat) (g : GT) (sb : LU0) (e : Int) (hl : 32 <= sb.length) (h0 : (gfE (sb.take 32)) ≠ 0) : qn (qAr h C i g sb 0 1).aa .normal (qAr h C i { g with q1 := (gfV (sb.take 32)) } (sb.drop 32) (gfE (sb.take 32)) 2).aa :=
 qR (os := oL [(281, rO 5 0), (295, rO 5 0), (313, wT)]) (by kernel_rfl) (ai (qFr h C i 1 2 rfl (sb := (sb.drop 32)) (e := (gfE (sb.take 32))) (a := ins (gP g) 1 1 (z4G)) (b := gP { g with q1 := (gfV (sb.take 32)) }) (by rw [rI h0]; kernel_rfl)) (ai (nez h0) (ai (pZ hl) (ai (pZ hl) tt0))))
theorem acv (h : QH) (C : List Value) (i : Nat) (g : GT) (sb : LU0) (e : Int) (h0 : e ≠ 0) : qn (qAr h C i g sb e 1).aa .normal (qAr h C i { g with q1 := 0 } sb e 2).aa :=
 qR (os := oL [(274, wT)]) (by kernel_rfl) (ai (qFr h C i 1 2 rfl (sb := sb) (e := e) (a := ins (gP g) 1 1 (z4G)) (b := gP { g with q1 := 0 }) (by kernel_rfl)) (ai (nez h0) tt0))
theorem adg (h : QH) (C : List Value) (i : Nat) (g : GT) (st : Int × LU0) (hl : st.1 = 0 -> 32 <= st.2.length) : qn (qAr h C i g st.2 st.1 1).aa .normal (qAr h C i { g with q1 := rvl 32 gfV 0 st } (rst 32 gfE st).2 (rst 32 gfE st).1 2).aa := by
 obtain ⟨e, sb⟩ := st
 by_cases h0 : e = 0
 ·subst h0
  by_cases h1 : gfE (sb.take 32) = 0
  ·exact aa9 h C i g sb 0 (hl rfl) h1
  ·exact acu h C i g sb 0 (hl rfl) h1
 ·rw [show rst 32 gfE (e, sb) = (e, sb) from if_neg h0, show rvl 32 gfV 0 (e, sb) = 0 from if_neg h0]
  exact acv h C i g sb e h0
theorem YY (h : QH) (C : List Value) (i : Nat) (g : GT) (sb : LU0) (e : Int) (hl : 32 <= sb.length) (h0 : (gfE (sb.take 32)) = 0) : qn (qAr h C i g sb 0 2).aa .normal (qAr h C i { g with q2 := (gfV (sb.take 32)) } (sb.drop 32) (gfE (sb.take 32)) 3).aa :=
 qR (os := oL [(281, rO 5 0), (295, rO 5 0), (313, wF)]) (by kernel_rfl) (ai (qFr h C i 2 3 rfl (sb := (sb.drop 32)) (e := (gfE (sb.take 32))) (a := ins (gP g) 2 1 ([.n 4 (gfV (sb.take 32))])) (b := gP { g with q2 := (gfV (sb.take 32)) }) (by kernel_rfl)) (ai (eqz h0) (ai (pZ hl) (ai (pZ hl) tt0))))
theorem abP (h : QH) (C : List Value) (i : Nat) (g : GT) (sb : LU0) (e : Int) (hl : 32 <= sb.length) (h0 : (gfE (sb.take 32)) ≠ 0) : qn (qAr h C i g sb 0 2).aa .normal (qAr h C i { g with q2 := (gfV (sb.take 32)) } (sb.drop 32) (gfE (sb.take 32)) 3).aa :=
 qR (os := oL [(281, rO 5 0), (295, rO 5 0), (313, wT)]) (by kernel_rfl) (ai (qFr h C i 2 3 rfl (sb := (sb.drop 32)) (e := (gfE (sb.take 32))) (a := ins (gP g) 2 1 (z4G)) (b := gP { g with q2 := (gfV (sb.take 32)) }) (by rw [rI h0]; kernel_rfl)) (ai (nez h0) (ai (pZ hl) (ai (pZ hl) tt0))))
theorem aco (h : QH) (C : List Value) (i : Nat) (g : GT) (sb : LU0) (e : Int) (h0 : e ≠ 0) : qn (qAr h C i g sb e 2).aa .normal (qAr h C i { g with q2 := 0 } sb e 3).aa :=
 qR (os := oL [(274, wT)]) (by kernel_rfl) (ai (qFr h C i 2 3 rfl (sb := sb) (e := e) (a := ins (gP g) 2 1 (z4G)) (b := gP { g with q2 := 0 }) (by kernel_rfl)) (ai (nez h0) tt0))
theorem acX (h : QH) (C : List Value) (i : Nat) (g : GT) (st : Int × LU0) (hl : st.1 = 0 -> 32 <= st.2.length) : qn (qAr h C i g st.2 st.1 2).aa .normal (qAr h C i { g with q2 := rvl 32 gfV 0 st } (rst 32 gfE st).2 (rst 32 gfE st).1 3).aa := by
 obtain ⟨e, sb⟩ := st
 by_cases h0 : e = 0
 ·subst h0
  by_cases h1 : gfE (sb.take 32) = 0
  ·exact YY h C i g sb 0 (hl rfl) h1
  ·exact abP h C i g sb 0 (hl rfl) h1
 ·rw [show rst 32 gfE (e, sb) = (e, sb) from if_neg h0, show rvl 32 gfV 0 (e, sb) = 0 from if_neg h0]
  exact aco h C i g sb e h0
theorem aay (h : QH) (C : List Value) (i : Nat) (g : GT) (sb : LU0) (e : Int) (hl : 32 <= sb.length) (h0 : (gfE (sb.take 32)) = 0) : qn (qAr h C i g sb 0 3).aa .normal (qAr h C i { g with q3 := (gfV (sb.take 32)) } (sb.drop 32) (gfE (sb.take 32)) 4).aa :=
 qR (os := oL [(281, rO 5 0), (295, rO 5 0), (313, wF)]) (by kernel_rfl) (ai (qFr h C i 3 4 rfl (sb := (sb.drop 32)) (e := (gfE (sb.take 32))) (a := ins (gP g) 3 1 ([.n 4 (gfV (sb.take 32))])) (b := gP { g with q3 := (gfV (sb.take 32)) }) (by kernel_rfl)) (ai (eqz h0) (ai (pZ hl) (ai (pZ hl) tt0))))
theorem ach (h : QH) (C : List Value) (i : Nat) (g : GT) (sb : LU0) (e : Int) (hl : 32 <= sb.length) (h0 : (gfE (sb.take 32)) ≠ 0) : qn (qAr h C i g sb 0 3).aa .normal (qAr h C i { g with q3 := (gfV (sb.take 32)) } (sb.drop 32) (gfE (sb.take 32)) 4).aa :=
 qR (os := oL [(281, rO 5 0), (295, rO 5 0), (313, wT)]) (by kernel_rfl) (ai (qFr h C i 3 4 rfl (sb := (sb.drop 32)) (e := (gfE (sb.take 32))) (a := ins (gP g) 3 1 (z4G)) (b := gP { g with q3 := (gfV (sb.take 32)) }) (by rw [rI h0]; kernel_rfl)) (ai (nez h0) (ai (pZ hl) (ai (pZ hl) tt0))))
theorem aap (h : QH) (C : List Value) (i : Nat) (g : GT) (sb : LU0) (e : Int) (h0 : e ≠ 0) : qn (qAr h C i g sb e 3).aa .normal (qAr h C i { g with q3 := 0 } sb e 4).aa :=
 qR (os := oL [(274, wT)]) (by kernel_rfl) (ai (qFr h C i 3 4 rfl (sb := sb) (e := e) (a := ins (gP g) 3 1 (z4G)) (b := gP { g with q3 := 0 }) (by kernel_rfl)) (ai (nez h0) tt0))
theorem adc (h : QH) (C : List Value) (i : Nat) (g : GT) (st : Int × LU0) (hl : st.1 = 0 -> 32 <= st.2.length) : qn (qAr h C i g st.2 st.1 3).aa .normal (qAr h C i { g with q3 := rvl 32 gfV 0 st } (rst 32 gfE st).2 (rst 32 gfE st).1 4).aa := by
 obtain ⟨e, sb⟩ := st
 by_cases h0 : e = 0
 ·subst h0
  by_cases h1 : gfE (sb.take 32) = 0
  ·exact aay h C i g sb 0 (hl rfl) h1
  ·exact ach h C i g sb 0 (hl rfl) h1
 ·rw [show rst 32 gfE (e, sb) = (e, sb) from if_neg h0, show rvl 32 gfV 0 (e, sb) = 0 from if_neg h0]
  exact aap h C i g sb e h0
theorem aaF (h : QH) (C : List Value) (i : Nat) (g : GT) (sb : LU0) (e : Int) (hl : 32 <= sb.length) (h0 : (gfE (sb.take 32)) = 0) : qn (qAr h C i g sb 0 4).aa .normal (qAr h C i { g with q4 := (gfV (sb.take 32)) } (sb.drop 32) (gfE (sb.take 32)) 5).aa :=
 qR (os := oL [(281, rO 5 0), (295, rO 5 0), (313, wF)]) (by kernel_rfl) (ai (qFr h C i 4 5 rfl (sb := (sb.drop 32)) (e := (gfE (sb.take 32))) (a := ins (gP g) 4 1 ([.n 4 (gfV (sb.take 32))])) (b := gP { g with q4 := (gfV (sb.take 32)) }) (by kernel_rfl)) (ai (eqz h0) (ai (pZ hl) (ai (pZ hl) tt0))))
theorem ZP (h : QH) (C : List Value) (i : Nat) (g : GT) (sb : LU0) (e : Int) (hl : 32 <= sb.length) (h0 : (gfE (sb.take 32)) ≠ 0) : qn (qAr h C i g sb 0 4).aa .normal (qAr h C i { g with q4 := (gfV (sb.take 32)) } (sb.drop 32) (gfE (sb.take 32)) 5).aa :=
 qR (os := oL [(281, rO 5 0), (295, rO 5 0), (313, wT)]) (by kernel_rfl) (ai (qFr h C i 4 5 rfl (sb := (sb.drop 32)) (e := (gfE (sb.take 32))) (a := ins (gP g) 4 1 (z4G)) (b := gP { g with q4 := (gfV (sb.take 32)) }) (by rw [rI h0]; kernel_rfl)) (ai (nez h0) (ai (pZ hl) (ai (pZ hl) tt0))))
theorem ab7 (h : QH) (C : List Value) (i : Nat) (g : GT) (sb : LU0) (e : Int) (h0 : e ≠ 0) : qn (qAr h C i g sb e 4).aa .normal (qAr h C i { g with q4 := 0 } sb e 5).aa :=
 qR (os := oL [(274, wT)]) (by kernel_rfl) (ai (qFr h C i 4 5 rfl (sb := sb) (e := e) (a := ins (gP g) 4 1 (z4G)) (b := gP { g with q4 := 0 }) (by kernel_rfl)) (ai (nez h0) tt0))
theorem ad0 (h : QH) (C : List Value) (i : Nat) (g : GT) (st : Int × LU0) (hl : st.1 = 0 -> 32 <= st.2.length) : qn (qAr h C i g st.2 st.1 4).aa .normal (qAr h C i { g with q4 := rvl 32 gfV 0 st } (rst 32 gfE st).2 (rst 32 gfE st).1 5).aa := by
 obtain ⟨e, sb⟩ := st
 by_cases h0 : e = 0
 ·subst h0
  by_cases h1 : gfE (sb.take 32) = 0
  ·exact aaF h C i g sb 0 (hl rfl) h1
  ·exact ZP h C i g sb 0 (hl rfl) h1
 ·rw [show rst 32 gfE (e, sb) = (e, sb) from if_neg h0, show rvl 32 gfV 0 (e, sb) = 0 from if_neg h0]
  exact ab7 h C i g sb e h0
theorem abm (h : QH) (C : List Value) (i : Nat) (g : GT) (sb : LU0) (e : Int) (m : Nat) (hm : c4 sb = m) (h4 : 4 <= sb.length) (h0 : m ≠ 4294967295) : qJ (qCr h C i g sb 0 0).aa .normal (qCr h C i { g with w0 := ((m : Nat) : Int) } (sb.drop 4) 0 1).aa :=
 rJ (AY sb m) 554 [2, 4, 7, 8, 9, 31, 32, 53] [0, 23, 244, 254, 24] (Au hm h4 h0).down
theorem aaJ (h : QH) (C : List Value) (i : Nat) (g : GT) (sb : LU0) (e : Int) (m : Nat) (hm : c4 sb = m) (h4 : 4 <= sb.length) (h0 : m = 4294967295) : qJ (qCr h C i g sb 0 0).aa .normal (qCr h C i { g with w0 := (-1) } (sb.drop 4) 0 1).aa :=
 rJ (AB sb m) 554 [2, 4, 7, 8, 9, 31, 32, 53] [0, 23, 244, 254, 24] (AE hm h4 h0).down
theorem abt (h : QH) (C : List Value) (i : Nat) (g : GT) (sb : LU0) (e : Int) (h0 : e ≠ 0) : qJ (qCr h C i g sb e 0).aa .normal (qCr h C i { g with w0 := 0 } sb e 1).aa :=
 rJ Bc 554 [2, 4, 7, 8, 9, 31, 32, 53] [0, 23, 244, 254, 24] (Ak h0).down
theorem adB (h : QH) (C : List Value) (i : Nat) (g : GT) (st : Int × LU0) (hl : st.1 = 0 -> 4 <= st.2.length) : qJ (qCr h C i g st.2 st.1 0).aa .normal (qCr h C i { g with w0 := rvl 4 wV 0 st } (rst 4 noE st).2 (rst 4 noE st).1 1).aa := by
 obtain ⟨e, sb⟩ := st
 by_cases h0 : e = 0
 ·subst h0
  rw [show rst 4 noE (0, sb) = (0, sb.drop 4) from rfl, show rvl 4 wV 0 (0, sb) = wV (sb.take 4) from if_pos rfl]
  by_cases h1 : c4 sb = 4294967295
  ·rw [Aw h1]; exact aaJ h C i g sb 0 _ rfl (hl rfl) h1
  ·rw [Ar h1]; exact abm h C i g sb 0 _ rfl (hl rfl) h1
 ·rw [show rst 4 noE (e, sb) = (e, sb) from if_neg h0, show rvl 4 wV 0 (e, sb) = 0 from if_neg h0]
  exact abt h C i g sb e h0
theorem ZU (h : QH) (C : List Value) (i : Nat) (g : GT) (sb : LU0) (e : Int) (m : Nat) (hm : c4 sb = m) (h4 : 4 <= sb.length) (h0 : m ≠ 4294967295) : qJ (qCr h C i g sb 0 1).aa .normal (qCr h C i { g with w1 := ((m : Nat) : Int) } (sb.drop 4) 0 2).aa :=
 rJ (AY sb m) 554 [2, 4, 7, 8, 9, 31, 32, 53] [0, 23, 244, 254, 24] (Au hm h4 h0).down
theorem Zh (h : QH) (C : List Value) (i : Nat) (g : GT) (sb : LU0) (e : Int) (m : Nat) (hm : c4 sb = m) (h4 : 4 <= sb.length) (h0 : m = 4294967295) : qJ (qCr h C i g sb 0 1).aa .normal (qCr h C i { g with w1 := (-1) } (sb.drop 4) 0 2).aa :=
 rJ (AB sb m) 554 [2, 4, 7, 8, 9, 31, 32, 53] [0, 23, 244, 254, 24] (AE hm h4 h0).down
theorem ZO (h : QH) (C : List Value) (i : Nat) (g : GT) (sb : LU0) (e : Int) (h0 : e ≠ 0) : qJ (qCr h C i g sb e 1).aa .normal (qCr h C i { g with w1 := 0 } sb e 2).aa :=
 rJ Bc 554 [2, 4, 7, 8, 9, 31, 32, 53] [0, 23, 244, 254, 24] (Ak h0).down
theorem adN (h : QH) (C : List Value) (i : Nat) (g : GT) (st : Int × LU0) (hl : st.1 = 0 -> 4 <= st.2.length) : qJ (qCr h C i g st.2 st.1 1).aa .normal (qCr h C i { g with w1 := rvl 4 wV 0 st } (rst 4 noE st).2 (rst 4 noE st).1 2).aa := by
 obtain ⟨e, sb⟩ := st
 by_cases h0 : e = 0
 ·subst h0
  rw [show rst 4 noE (0, sb) = (0, sb.drop 4) from rfl, show rvl 4 wV 0 (0, sb) = wV (sb.take 4) from if_pos rfl]
  by_cases h1 : c4 sb = 4294967295
  ·rw [Aw h1]; exact Zh h C i g sb 0 _ rfl (hl rfl) h1
  ·rw [Ar h1]; exact ZU h C i g sb 0 _ rfl (hl rfl) h1
 ·rw [show rst 4 noE (e, sb) = (e, sb) from if_neg h0, show rvl 4 wV 0 (e, sb) = 0 from if_neg h0]
  exact ZO h C i g sb e h0
theorem Y7 (h : QH) (C : List Value) (i : Nat) (g : GT) (sb : LU0) (e : Int) (m : Nat) (hm : c4 sb = m) (h4 : 4 <= sb.length) (h0 : m ≠ 4294967295) : qJ (qCr h C i g sb 0 2).aa .normal (qCr h C i { g with w2 := ((m : Nat) : Int) } (sb.drop 4) 0 3).aa :=
 rJ (AY sb m) 554 [2, 4, 7, 8, 9, 31, 32, 53] [0, 23, 244, 254, 24] (Au hm h4 h0).down
theorem aac (h : QH) (C : List Value) (i : Nat) (g : GT) (sb : LU0) (e : Int) (m : Nat) (hm : c4 sb = m) (h4 : 4 <= sb.length) (h0 : m = 4294967295) : qJ (qCr h C i g sb 0 2).aa .normal (qCr h C i { g with w2 := (-1) } (sb.drop 4) 0 3).aa :=
 rJ (AB sb m) 554 [2, 4, 7, 8, 9, 31, 32, 53] [0, 23, 244, 254, 24] (AE hm h4 h0).down
theorem aab (h : QH) (C : List Value) (i : Nat) (g : GT) (sb : LU0) (e : Int) (h0 : e ≠ 0) : qJ (qCr h C i g sb e 2).aa .normal (qCr h C i { g with w2 := 0 } sb e 3).aa :=
 rJ Bc 554 [2, 4, 7, 8, 9, 31, 32, 53] [0, 23, 244, 254, 24] (Ak h0).down
theorem ads (h : QH) (C : List Value) (i : Nat) (g : GT) (st : Int × LU0) (hl : st.1 = 0 -> 4 <= st.2.length) : qJ (qCr h C i g st.2 st.1 2).aa .normal (qCr h C i { g with w2 := rvl 4 wV 0 st } (rst 4 noE st).2 (rst 4 noE st).1 3).aa := by
 obtain ⟨e, sb⟩ := st
 by_cases h0 : e = 0
 ·subst h0
  rw [show rst 4 noE (0, sb) = (0, sb.drop 4) from rfl, show rvl 4 wV 0 (0, sb) = wV (sb.take 4) from if_pos rfl]
  by_cases h1 : c4 sb = 4294967295
  ·rw [Aw h1]; exact aac h C i g sb 0 _ rfl (hl rfl) h1
  ·rw [Ar h1]; exact Y7 h C i g sb 0 _ rfl (hl rfl) h1
 ·rw [show rst 4 noE (e, sb) = (e, sb) from if_neg h0, show rvl 4 wV 0 (e, sb) = 0 from if_neg h0]
  exact aab h C i g sb e h0
def qfA (g : GT) (V : Nat -> Nat) (i : Nat) : GT := { g with q0 := if 0 < i then V 0 else g.q0, q1 := if 1 < i then V 1 else g.q1, q2 := if 2 < i then V 2 else g.q2, q3 := if 3 < i then V 3 else g.q3, q4 := if 4 < i then V 4 else g.q4 }
theorem PW (st : Int × LU0) (h0 : st.1 = 0 -> 160 <= st.2.length) (i : Nat) (hi : i < 5) : (nst 32 gfE i st).1 = 0 -> 32 <= (nst 32 gfE i st).2.length := by
 intro h
 obtain ⟨h1, h2, _⟩ := rq i st h
 rw [h2]
 show 32 <= (st.2.drop (32 * i)).length
 have := h0 h1
 rw [List.length_drop]
 omega
theorem B9 {c : Code} {I L : LState} {ex : Ex} {b : Prop} (o : LO0) (k : Nat) (sk hk : List Nat) (hb : b) (h : uG prog (qa _) [] 0 (oL o) 0 false c k I sk hk [] = some (ex, L, b) := by kernel_rfl) : Sound prog 0 false c I.aa ex L.aa := p9 (P := prog) (X := qa _) (env := []) trivial h hb
theorem Tb (h : QH) (g : GT) (sb : LU0) (e : Int) : qn (qAz h g sb e 5).aa (.exit 2) (qBz h g sb e).aa :=
 B9 [] 262 [2, 4, 7, 8, 9, 31, 32] [0, 23, 244, 254] trivial
theorem SZ (h : QH) (g : GT) (st : Int × LU0) (h0 : st.1 = 0 -> 160 <= st.2.length) : Sound prog 0 false (.loop (qc f9 1)) (qAz h (qfA g (fun j => rvl 32 gfV 0 (nst 32 gfE j st)) 0) st.2 st.1 0).aa (.exit 2) (qBz h (qfA g (fun j => rvl 32 gfV 0 (nst 32 gfE j st)) 5) (nst 32 gfE 5 st).2 (nst 32 gfE 5 st).1).aa := by
 have hh := qw (P := prog) (fb := 0) (rd := false) (body := (qc f9 1)) (ex := .exit 2) (E := qBz h (qfA g (fun j => rvl 32 gfV 0 (nst 32 gfE j st)) 5) (nst 32 gfE 5 st).2 (nst 32 gfE 5 st).1) (m := fun y : { i : Nat // i <= 5 } => 5 - y.val) (fun y => qAz h (qfA g (fun j => rvl 32 gfV 0 (nst 32 gfE j st)) y.val) (nst 32 gfE y.val st).2 (nst 32 gfE y.val st).1 (y.val : Int)) (by simp) (fun y => ?_) ⟨0, by omega⟩
 ·exact hh
 obtain ⟨m, hi⟩ := y
 by_cases e : m < 5
 ·refine .inl ⟨⟨m + 1, e⟩, by show 5 - (m + 1) < 5 - m; omega, ?_⟩
  have hl := PW st h0 m e
  have e : m = 0 ∨ m = 1 ∨ m = 2 ∨ m = 3 ∨ m = 4 := by omega
  rcases e with rfl | rfl | rfl | rfl | rfl
  ·exact adD h (qfA g (fun j => rvl 32 gfV 0 (nst 32 gfE j st)) 0) (nst 32 gfE 0 st) hl
  ·exact adi h (qfA g (fun j => rvl 32 gfV 0 (nst 32 gfE j st)) 1) (nst 32 gfE 1 st) hl
  ·exact acO h (qfA g (fun j => rvl 32 gfV 0 (nst 32 gfE j st)) 2) (nst 32 gfE 2 st) hl
  ·exact adh h (qfA g (fun j => rvl 32 gfV 0 (nst 32 gfE j st)) 3) (nst 32 gfE 3 st) hl
  ·exact ac5 h (qfA g (fun j => rvl 32 gfV 0 (nst 32 gfE j st)) 4) (nst 32 gfE 4 st) hl
 ·have e : m = 5 := by omega
  subst e
  exact .inr (Tb h _ _ _)
def qfB (g : GT) (V : Nat -> Int) (i : Nat) : GT := { g with w0 := if 0 < i then V 0 else g.w0, w1 := if 1 < i then V 1 else g.w1, w2 := if 2 < i then V 2 else g.w2 }
theorem Rm (st : Int × LU0) (h0 : st.1 = 0 -> 12 <= st.2.length) (i : Nat) (hi : i < 3) : (nst 4 noE i st).1 = 0 -> 4 <= (nst 4 noE i st).2.length := by
 intro h
 obtain ⟨h1, h2, _⟩ := rq i st h
 rw [h2]
 show 4 <= (st.2.drop (4 * i)).length
 have := h0 h1
 rw [List.length_drop]
 omega
theorem SS (h : QH) (g : GT) (sb : LU0) (e : Int) : qJ (qCz h g sb e 3).aa (.exit 4) (qBz h g sb e).aa :=
 B9 [] 554 [2, 4, 7, 8, 9, 31, 32] [0, 23, 244, 254] trivial
theorem SK (h : QH) (g : GT) (st : Int × LU0) (h0 : st.1 = 0 -> 12 <= st.2.length) : Sound prog 0 false (.loop (qc f9 2)) (qCz h (qfB g (fun j => rvl 4 wV 0 (nst 4 noE j st)) 0) st.2 st.1 0).aa (.exit 4) (qBz h (qfB g (fun j => rvl 4 wV 0 (nst 4 noE j st)) 3) (nst 4 noE 3 st).2 (nst 4 noE 3 st).1).aa := by
 have hh := qw (P := prog) (fb := 0) (rd := false) (body := (qc f9 2)) (ex := .exit 4) (E := qBz h (qfB g (fun j => rvl 4 wV 0 (nst 4 noE j st)) 3) (nst 4 noE 3 st).2 (nst 4 noE 3 st).1) (m := fun y : { i : Nat // i <= 3 } => 3 - y.val) (fun y => qCz h (qfB g (fun j => rvl 4 wV 0 (nst 4 noE j st)) y.val) (nst 4 noE y.val st).2 (nst 4 noE y.val st).1 (y.val : Int)) (by simp) (fun y => ?_) ⟨0, by omega⟩
 ·exact hh
 obtain ⟨m, hi⟩ := y
 by_cases e : m < 3
 ·refine .inl ⟨⟨m + 1, e⟩, by show 3 - (m + 1) < 3 - m; omega, ?_⟩
  have hl := Rm st h0 m e
  have e : m = 0 ∨ m = 1 ∨ m = 2 := by omega
  rcases e with rfl | rfl | rfl
  ·exact acK h (qfB g (fun j => rvl 4 wV 0 (nst 4 noE j st)) 0) (nst 4 noE 0 st) hl
  ·exact ac1 h (qfB g (fun j => rvl 4 wV 0 (nst 4 noE j st)) 1) (nst 4 noE 1 st) hl
  ·exact acL h (qfB g (fun j => rvl 4 wV 0 (nst 4 noE j st)) 2) (nst 4 noE 2 st) hl
 ·have e : m = 3 := by omega
  subst e
  exact .inr (SS h _ _ _)
theorem U2 (h : QH) (C : List Value) (i : Nat) (g : GT) (sb : LU0) (e : Int) : qn (qAr h C i g sb e 5).aa (.exit 2) (qBr h C i g sb e).aa :=
 B9 [] 262 [2, 4, 7, 8, 9, 31, 32] [0, 23, 244, 254, 24] trivial
theorem Ua (h : QH) (C : List Value) (i : Nat) (g : GT) (st : Int × LU0) (h0 : st.1 = 0 -> 160 <= st.2.length) : Sound prog 0 false (.loop (qc f9 1)) (qAr h C i (qfA g (fun j => rvl 32 gfV 0 (nst 32 gfE j st)) 0) st.2 st.1 0).aa (.exit 2) (qBr h C i (qfA g (fun j => rvl 32 gfV 0 (nst 32 gfE j st)) 5) (nst 32 gfE 5 st).2 (nst 32 gfE 5 st).1).aa := by
 have hh := qw (P := prog) (fb := 0) (rd := false) (body := (qc f9 1)) (ex := .exit 2) (E := qBr h C i (qfA g (fun j => rvl 32 gfV 0 (nst 32 gfE j st)) 5) (nst 32 gfE 5 st).2 (nst 32 gfE 5 st).1) (m := fun y : { i : Nat // i <= 5 } => 5 - y.val) (fun y => qAr h C i (qfA g (fun j => rvl 32 gfV 0 (nst 32 gfE j st)) y.val) (nst 32 gfE y.val st).2 (nst 32 gfE y.val st).1 (y.val : Int)) (by simp) (fun y => ?_) ⟨0, by omega⟩
 ·exact hh
 obtain ⟨m, hi⟩ := y
 by_cases e : m < 5
 ·refine .inl ⟨⟨m + 1, e⟩, by show 5 - (m + 1) < 5 - m; omega, ?_⟩
  have hl := PW st h0 m e
  have e : m = 0 ∨ m = 1 ∨ m = 2 ∨ m = 3 ∨ m = 4 := by omega
  rcases e with rfl | rfl | rfl | rfl | rfl
  ·exact acS h C i (qfA g (fun j => rvl 32 gfV 0 (nst 32 gfE j st)) 0) (nst 32 gfE 0 st) hl
  ·exact adg h C i (qfA g (fun j => rvl 32 gfV 0 (nst 32 gfE j st)) 1) (nst 32 gfE 1 st) hl
  ·exact acX h C i (qfA g (fun j => rvl 32 gfV 0 (nst 32 gfE j st)) 2) (nst 32 gfE 2 st) hl
  ·exact adc h C i (qfA g (fun j => rvl 32 gfV 0 (nst 32 gfE j st)) 3) (nst 32 gfE 3 st) hl
  ·exact ad0 h C i (qfA g (fun j => rvl 32 gfV 0 (nst 32 gfE j st)) 4) (nst 32 gfE 4 st) hl
 ·have e : m = 5 := by omega
  subst e
  exact .inr (U2 h C i _ _ _)
theorem Tp (h : QH) (C : List Value) (i : Nat) (g : GT) (sb : LU0) (e : Int) : qJ (qCr h C i g sb e 3).aa (.exit 4) (qBr h C i g sb e).aa :=
 B9 [] 554 [2, 4, 7, 8, 9, 31, 32] [0, 23, 244, 254, 24] trivial
theorem TR (h : QH) (C : List Value) (i : Nat) (g : GT) (st : Int × LU0) (h0 : st.1 = 0 -> 12 <= st.2.length) : Sound prog 0 false (.loop (qc f9 2)) (qCr h C i (qfB g (fun j => rvl 4 wV 0 (nst 4 noE j st)) 0) st.2 st.1 0).aa (.exit 4) (qBr h C i (qfB g (fun j => rvl 4 wV 0 (nst 4 noE j st)) 3) (nst 4 noE 3 st).2 (nst 4 noE 3 st).1).aa := by
 have hh := qw (P := prog) (fb := 0) (rd := false) (body := (qc f9 2)) (ex := .exit 4) (E := qBr h C i (qfB g (fun j => rvl 4 wV 0 (nst 4 noE j st)) 3) (nst 4 noE 3 st).2 (nst 4 noE 3 st).1) (m := fun y : { i : Nat // i <= 3 } => 3 - y.val) (fun y => qCr h C i (qfB g (fun j => rvl 4 wV 0 (nst 4 noE j st)) y.val) (nst 4 noE y.val st).2 (nst 4 noE y.val st).1 (y.val : Int)) (by simp) (fun y => ?_) ⟨0, by omega⟩
 ·exact hh
 obtain ⟨m, hi⟩ := y
 by_cases e : m < 3
 ·refine .inl ⟨⟨m + 1, e⟩, by show 3 - (m + 1) < 3 - m; omega, ?_⟩
  have hl := Rm st h0 m e
  have e : m = 0 ∨ m = 1 ∨ m = 2 := by omega
  rcases e with rfl | rfl | rfl
  ·exact adB h C i (qfB g (fun j => rvl 4 wV 0 (nst 4 noE j st)) 0) (nst 4 noE 0 st) hl
  ·exact adN h C i (qfB g (fun j => rvl 4 wV 0 (nst 4 noE j st)) 1) (nst 4 noE 1 st) hl
  ·exact ads h C i (qfB g (fun j => rvl 4 wV 0 (nst 4 noE j st)) 2) (nst 4 noE 2 st) hl
 ·have e : m = 3 := by omega
  subst e
  exact .inr (Tp h C i _ _ _)
end Go.Proofs.YtokjhbmmdmeafaaGreat
