/- Pruned: ZhGq1. -/
import Derived.Test.YtokjhbmmdmeafaaGreatQGf
import Derived.Test.YtokjhbmmdmeafaaGreatQGl
import Derived.Test.YtokjhbmmdmeafaaGreatQGa
set_option linter.unusedSimpArgs false
set_option linter.unusedVariables false
namespace Go.Proofs.YtokjhbmmdmeafaaGreat
open Go.Ev Go.RowKit
open Tryz
abbrev QN (v : Value) : Prop := true = true /\ true = true /\ [v] = [v]
abbrev rf (n : Nat) : Prop := true = true /\ n = n
abbrev AL (t : Nat) (l : List Ch) : Prop := t = t /\ flat l = flat l
abbrev zy (v : Value) : Prop := v = v
def wV (c : LU0) : Int := if c4 c = 4294967295 then -1 else ((c4 c : Nat) : Int)
def noE (c : LU0) : Int := 0
theorem Ak (l : LU0) (i : Nat) (h : i < 4) : cn (l.take 4) i = cn l i := by
 unfold cn
 rw [List.getD_eq_getElem?_getD, List.getD_eq_getElem?_getD, List.getElem?_take, if_pos h]
theorem IS (l : LU0) : c4 (l.take 4) = c4 l := by
 unfold c4
 rw [Ak l 0 (by omega), Ak l 1 (by omega), Ak l 2 (by omega), Ak l 3 (by omega)]
theorem zc {l : LU0} (h : c4 l = 4294967295) : wV (l.take 4) = -1 := by
 unfold wV; rw [IS, if_pos h]
theorem zC {l : LU0} (h : c4 l ≠ 4294967295) : wV (l.take 4) = ((c4 l : Nat) : Int) := by
 unfold wV; rw [IS, if_neg h]
structure QH where
 N : Nat
 pub : Int
 vs : Int
 u : Int
def zcL : List Ch := [.c (.slice none 0 0), ci0 0, ci0 0]
def g0L : List Ch := List.replicate 20 (.c (.int .u64 0)) ++ List.replicate 3 (ci0 0)
def gt0 : GT := ⟨0, 0, 0, 0, 0, 0, 0, 0⟩
theorem IZ : flat g0L = flat (gP gt0) := by kernel_rfl
def qOz (h : QH) (sb : LU0) (e : Int) : LState := { n := 98, sl := [(2, .p 0 0), (4, .p 23 0), (7, .v (.int .u32 h.u)), (8, .p 244 0), (31, vi0 (h.N : Int)), (32, vi0 0)], hp := [(0, .own zcL 49), (23, .own [.c (.string (ofL sb)), ci0 e] 85), (244, .own [.c (.slice none 0 0), ci0 h.pub, ci0 h.vs] 49)] }
def qEz (h : QH) (sb : LU0) (e : Int) : LState := { n := 98, sl := [(2, .p 0 0), (4, .p 23 0), (7, .v (.int .u32 h.u)), (8, .p 244 0)], hp := [(0, .own zcL 49), (23, .own [.c (.string (ofL sb)), ci0 e] 85), (244, .own [.c (.slice none 0 0), ci0 h.pub, ci0 h.vs] 49)] }
def qAz (h : QH) (g : GT) (sb : LU0) (e j : Int) : LState := { n := 98, sl := [(2, .p 0 0), (4, .p 23 0), (7, .v (.int .u32 h.u)), (8, .p 244 0), (9, .p 254 0), (31, vi0 (h.N : Int)), (32, vi0 0), (44, .ag [.p 254 0, .p 254 4, .p 254 8, .p 254 12, .p 254 16]), (45, vi0 j)], hp := [(0, .own zcL 49), (23, .own [.c (.string (ofL sb)), ci0 e] 85), (244, .own [.c (.slice none 0 0), ci0 h.pub, ci0 h.vs] 49), (254, .own (gP g) 94)] }
def qBz (h : QH) (g : GT) (sb : LU0) (e : Int) : LState := { n := 98, sl := [(2, .p 0 0), (4, .p 23 0), (7, .v (.int .u32 h.u)), (8, .p 244 0), (9, .p 254 0), (31, vi0 (h.N : Int)), (32, vi0 0)], hp := [(0, .own zcL 49), (23, .own [.c (.string (ofL sb)), ci0 e] 85), (244, .own [.c (.slice none 0 0), ci0 h.pub, ci0 h.vs] 49), (254, .own (gP g) 94)] }
def qCz (h : QH) (g : GT) (sb : LU0) (e j : Int) : LState := { n := 98, sl := [(2, .p 0 0), (4, .p 23 0), (7, .v (.int .u32 h.u)), (8, .p 244 0), (9, .p 254 0), (31, vi0 (h.N : Int)), (32, vi0 0), (53, vi0 j)], hp := [(0, .own zcL 49), (23, .own [.c (.string (ofL sb)), ci0 e] 85), (244, .own [.c (.slice none 0 0), ci0 h.pub, ci0 h.vs] 49), (254, .own (gP g) 94)] }
def qJz (h : QH) (sb : LU0) : LState := { n := 98, sl := [(2, .p 0 0), (4, .p 23 0), (7, .v (.int .u32 h.u)), (8, .p 244 0), (9, .p 254 0), (31, vi0 (h.N : Int)), (32, vi0 0), (44, .ag [.p 254 0, .p 254 4, .p 254 8, .p 254 12, .p 254 16]), (45, vi0 0)], hp := [(0, .own zcL 49), (23, .own [.c (.string (ofL sb)), ci0 0] 85), (244, .own [.c (.slice none 0 0), ci0 h.pub, ci0 h.vs] 49), (254, .own g0L 94)] }
def qOr (h : QH) (C : List Value) (i : Nat) (sb : LU0) (e : Int) : LState := { n := 98, sl := [(2, .p 0 0), (4, .p 23 0), (7, .v (.int .u32 h.u)), (8, .p 244 0), (31, vi0 (h.N : Int)), (32, vi0 (i : Int))], hp := [(0, .own zcL 49), (23, .own [.c (.string (ofL sb)), ci0 e] 85), (244, .own [.sx 24 i, ci0 h.pub, ci0 h.vs] 49), (24, .gr [.l C] 94 23)] }
def qEr (h : QH) (C : List Value) (i : Nat) (sb : LU0) (e : Int) : LState := { n := 98, sl := [(2, .p 0 0), (4, .p 23 0), (7, .v (.int .u32 h.u)), (8, .p 244 0)], hp := [(0, .own zcL 49), (23, .own [.c (.string (ofL sb)), ci0 e] 85), (244, .own [.sx 24 i, ci0 h.pub, ci0 h.vs] 49), (24, .gr [.l C] 94 23)] }
def qAr (h : QH) (C : List Value) (i : Nat) (g : GT) (sb : LU0) (e j : Int) : LState := { n := 98, sl := [(2, .p 0 0), (4, .p 23 0), (7, .v (.int .u32 h.u)), (8, .p 244 0), (9, .p 254 0), (31, vi0 (h.N : Int)), (32, vi0 (i : Int)), (44, .ag [.p 254 0, .p 254 4, .p 254 8, .p 254 12, .p 254 16]), (45, vi0 j)], hp := [(0, .own zcL 49), (23, .own [.c (.string (ofL sb)), ci0 e] 85), (244, .own [.sx 24 i, ci0 h.pub, ci0 h.vs] 49), (254, .own (gP g) 94), (24, .gr [.l C] 94 23)] }
def qBr (h : QH) (C : List Value) (i : Nat) (g : GT) (sb : LU0) (e : Int) : LState := { n := 98, sl := [(2, .p 0 0), (4, .p 23 0), (7, .v (.int .u32 h.u)), (8, .p 244 0), (9, .p 254 0), (31, vi0 (h.N : Int)), (32, vi0 (i : Int))], hp := [(0, .own zcL 49), (23, .own [.c (.string (ofL sb)), ci0 e] 85), (244, .own [.sx 24 i, ci0 h.pub, ci0 h.vs] 49), (254, .own (gP g) 94), (24, .gr [.l C] 94 23)] }
def qCr (h : QH) (C : List Value) (i : Nat) (g : GT) (sb : LU0) (e j : Int) : LState := { n := 98, sl := [(2, .p 0 0), (4, .p 23 0), (7, .v (.int .u32 h.u)), (8, .p 244 0), (9, .p 254 0), (31, vi0 (h.N : Int)), (32, vi0 (i : Int)), (53, vi0 j)], hp := [(0, .own zcL 49), (23, .own [.c (.string (ofL sb)), ci0 e] 85), (244, .own [.sx 24 i, ci0 h.pub, ci0 h.vs] 49), (254, .own (gP g) 94), (24, .gr [.l C] 94 23)] }
def qJr (h : QH) (C : List Value) (i : Nat) (sb : LU0) : LState := { n := 98, sl := [(2, .p 0 0), (4, .p 23 0), (7, .v (.int .u32 h.u)), (8, .p 244 0), (9, .p 254 0), (31, vi0 (h.N : Int)), (32, vi0 (i : Int)), (44, .ag [.p 254 0, .p 254 4, .p 254 8, .p 254 12, .p 254 16]), (45, vi0 0)], hp := [(0, .own zcL 49), (23, .own [.c (.string (ofL sb)), ci0 0] 85), (244, .own [.sx 24 i, ci0 h.pub, ci0 h.vs] 49), (254, .own g0L 94), (24, .gr [.l C] 94 23)] }
def z4G : List Ch := List.replicate 4 (.c (.int .u64 0))
theorem qR {os : Nat -> Ora} {c : Code} {I J : LState} {ex : Ex} {ob : Prop} (h : wu prog (pC _) [tf] 3 os 0 false c 262 I J [] = some (ex, ob)) (hob : ob) : Sound prog 0 false c I.aa ex J.aa := rV (P := prog) (X := pC _) (env := [tf]) ⟨tv, tt0⟩ h hob
theorem qFz (h : QH) (j k : Int) (hk : Value.int .i64 (IntKind.i64.wrap (j + 1)) = Value.int .i64 k) {sb : LU0} {e : Int} {a b : List Ch} (hf : flat a = flat b) : ((rf 0) /\ (rf 0) /\ (zy (.int .u32 h.u)) /\ (rf 0) /\ (rf 0) /\ (zy (.int .i64 (h.N : Int))) /\ (zy (.int .i64 0)) /\ ((rf 0) /\ (rf 4) /\ (rf 8) /\ (rf 12) /\ (rf 16) /\ True) /\ (Value.int .i64 (IntKind.i64.wrap (j + 1))) = (Value.int .i64 k) /\ True) /\ ((AL 49 zcL) /\ (AL 85 [.c (.string (ofL sb)), ci0 e]) /\ (AL 49 [.c (.slice none 0 0), ci0 h.pub, ci0 h.vs]) /\ (94 = 94 /\ flat a = flat b) /\ True) :=
 ⟨⟨rr0, rr0, rfl, rr0, rr0, rfl, rfl, ⟨rr0, rr0, rr0, rr0, rr0, tt0⟩, hk, tt0⟩, ⟨rr0, rr0, rr0, ⟨rfl, hf⟩, tt0⟩⟩
theorem qFr (h : QH) (C : List Value) (i : Nat) (j k : Int) (hk : Value.int .i64 (IntKind.i64.wrap (j + 1)) = Value.int .i64 k) {sb : LU0} {e : Int} {a b : List Ch} (hf : flat a = flat b) : ((rf 0) /\ (rf 0) /\ (zy (.int .u32 h.u)) /\ (rf 0) /\ (rf 0) /\ (zy (.int .i64 (h.N : Int))) /\ (zy (.int .i64 (i : Int))) /\ ((rf 0) /\ (rf 4) /\ (rf 8) /\ (rf 12) /\ (rf 16) /\ True) /\ (Value.int .i64 (IntKind.i64.wrap (j + 1))) = (Value.int .i64 k) /\ True) /\ ((AL 49 zcL) /\ (AL 85 [.c (.string (ofL sb)), ci0 e]) /\ (49 = 49 /\ (rf i) /\ (QN (.int .i64 h.pub)) /\ (QN (.int .i64 h.vs)) /\ True) /\ (94 = 94 /\ flat a = flat b) /\ ((94 = 94 /\ 23 = 23) /\ flat [.l C] = flat [.l C]) /\ True) :=
 ⟨⟨rr0, rr0, rfl, rr0, rr0, rfl, rfl, ⟨rr0, rr0, rr0, rr0, rr0, tt0⟩, hk, tt0⟩, ⟨rr0, rr0, ⟨rfl, rr0, r30, r30, tt0⟩, ⟨rfl, hf⟩, ⟨rr0, rfl⟩, tt0⟩⟩
abbrev pQ (a : AA) (e : Ex) (b : AA) : Prop := Sound prog 0 false (pI f9 1) a e b
theorem Yn (h : QH) (g : GT) (sb : LU0) (e : Int) (hl : 32 <= sb.length) (h0 : (gfE (sb.take 32)) = 0) : pQ (qAz h g sb 0 0).aa .normal (qAz h { g with q0 := (gfV (sb.take 32)) } (sb.drop 32) (gfE (sb.take 32)) 1).aa :=
 qR (os := oL [(281, rO 5 0), (295, rO 5 0), (313, wF)]) (by kernel_rfl) (ai (qFz h 0 1 rfl (sb := (sb.drop 32)) (e := (gfE (sb.take 32))) (a := ins (gP g) 0 1 ([.n 4 (gfV (sb.take 32))])) (b := gP { g with q0 := (gfV (sb.take 32)) }) (by kernel_rfl)) (ai (eqz h0) (ai (pt hl) (ai (pt hl) tt0))))
theorem XF (h : QH) (g : GT) (sb : LU0) (e : Int) (hl : 32 <= sb.length) (h0 : (gfE (sb.take 32)) ≠ 0) : pQ (qAz h g sb 0 0).aa .normal (qAz h { g with q0 := (gfV (sb.take 32)) } (sb.drop 32) (gfE (sb.take 32)) 1).aa :=
 qR (os := oL [(281, rO 5 0), (295, rO 5 0), (313, wT)]) (by kernel_rfl) (ai (qFz h 0 1 rfl (sb := (sb.drop 32)) (e := (gfE (sb.take 32))) (a := ins (gP g) 0 1 (z4G)) (b := gP { g with q0 := (gfV (sb.take 32)) }) (by rw [qM h0]; kernel_rfl)) (ai (nez h0) (ai (pt hl) (ai (pt hl) tt0))))
theorem YX (h : QH) (g : GT) (sb : LU0) (e : Int) (h0 : e ≠ 0) : pQ (qAz h g sb e 0).aa .normal (qAz h { g with q0 := 0 } sb e 1).aa :=
 qR (os := oL [(274, wT)]) (by kernel_rfl) (ai (qFz h 0 1 rfl (sb := sb) (e := e) (a := ins (gP g) 0 1 (z4G)) (b := gP { g with q0 := 0 }) (by kernel_rfl)) (ai (nez h0) tt0))
theorem ab9 (h : QH) (g : GT) (st : Int × LU0) (hl : st.1 = 0 -> 32 <= st.2.length) : pQ (qAz h g st.2 st.1 0).aa .normal (qAz h { g with q0 := rvl 32 gfV 0 st } (rst 32 gfE st).2 (rst 32 gfE st).1 1).aa := by
 obtain ⟨e, sb⟩ := st
 by_cases h0 : e = 0
 ·subst h0
  by_cases h1 : gfE (sb.take 32) = 0
  ·exact Yn h g sb 0 (hl rfl) h1
  ·exact XF h g sb 0 (hl rfl) h1
 ·rw [show rst 32 gfE (e, sb) = (e, sb) from if_neg h0, show rvl 32 gfV 0 (e, sb) = 0 from if_neg h0]
  exact YX h g sb e h0
theorem Xb (h : QH) (g : GT) (sb : LU0) (e : Int) (hl : 32 <= sb.length) (h0 : (gfE (sb.take 32)) = 0) : pQ (qAz h g sb 0 1).aa .normal (qAz h { g with q1 := (gfV (sb.take 32)) } (sb.drop 32) (gfE (sb.take 32)) 2).aa :=
 qR (os := oL [(281, rO 5 0), (295, rO 5 0), (313, wF)]) (by kernel_rfl) (ai (qFz h 1 2 rfl (sb := (sb.drop 32)) (e := (gfE (sb.take 32))) (a := ins (gP g) 1 1 ([.n 4 (gfV (sb.take 32))])) (b := gP { g with q1 := (gfV (sb.take 32)) }) (by kernel_rfl)) (ai (eqz h0) (ai (pt hl) (ai (pt hl) tt0))))
theorem Zb (h : QH) (g : GT) (sb : LU0) (e : Int) (hl : 32 <= sb.length) (h0 : (gfE (sb.take 32)) ≠ 0) : pQ (qAz h g sb 0 1).aa .normal (qAz h { g with q1 := (gfV (sb.take 32)) } (sb.drop 32) (gfE (sb.take 32)) 2).aa :=
 qR (os := oL [(281, rO 5 0), (295, rO 5 0), (313, wT)]) (by kernel_rfl) (ai (qFz h 1 2 rfl (sb := (sb.drop 32)) (e := (gfE (sb.take 32))) (a := ins (gP g) 1 1 (z4G)) (b := gP { g with q1 := (gfV (sb.take 32)) }) (by rw [qM h0]; kernel_rfl)) (ai (nez h0) (ai (pt hl) (ai (pt hl) tt0))))
theorem YI (h : QH) (g : GT) (sb : LU0) (e : Int) (h0 : e ≠ 0) : pQ (qAz h g sb e 1).aa .normal (qAz h { g with q1 := 0 } sb e 2).aa :=
 qR (os := oL [(274, wT)]) (by kernel_rfl) (ai (qFz h 1 2 rfl (sb := sb) (e := e) (a := ins (gP g) 1 1 (z4G)) (b := gP { g with q1 := 0 }) (by kernel_rfl)) (ai (nez h0) tt0))
theorem abI (h : QH) (g : GT) (st : Int × LU0) (hl : st.1 = 0 -> 32 <= st.2.length) : pQ (qAz h g st.2 st.1 1).aa .normal (qAz h { g with q1 := rvl 32 gfV 0 st } (rst 32 gfE st).2 (rst 32 gfE st).1 2).aa := by
 obtain ⟨e, sb⟩ := st
 by_cases h0 : e = 0
 ·subst h0
  by_cases h1 : gfE (sb.take 32) = 0
  ·exact Xb h g sb 0 (hl rfl) h1
  ·exact Zb h g sb 0 (hl rfl) h1
 ·rw [show rst 32 gfE (e, sb) = (e, sb) from if_neg h0, show rvl 32 gfV 0 (e, sb) = 0 from if_neg h0]
  exact YI h g sb e h0
theorem aaT (h : QH) (g : GT) (sb : LU0) (e : Int) (hl : 32 <= sb.length) (h0 : (gfE (sb.take 32)) = 0) : pQ (qAz h g sb 0 2).aa .normal (qAz h { g with q2 := (gfV (sb.take 32)) } (sb.drop 32) (gfE (sb.take 32)) 3).aa :=
 qR (os := oL [(281, rO 5 0), (295, rO 5 0), (313, wF)]) (by kernel_rfl) (ai (qFz h 2 3 rfl (sb := (sb.drop 32)) (e := (gfE (sb.take 32))) (a := ins (gP g) 2 1 ([.n 4 (gfV (sb.take 32))])) (b := gP { g with q2 := (gfV (sb.take 32)) }) (by kernel_rfl)) (ai (eqz h0) (ai (pt hl) (ai (pt hl) tt0))))
theorem aa0 (h : QH) (g : GT) (sb : LU0) (e : Int) (hl : 32 <= sb.length) (h0 : (gfE (sb.take 32)) ≠ 0) : pQ (qAz h g sb 0 2).aa .normal (qAz h { g with q2 := (gfV (sb.take 32)) } (sb.drop 32) (gfE (sb.take 32)) 3).aa :=
 qR (os := oL [(281, rO 5 0), (295, rO 5 0), (313, wT)]) (by kernel_rfl) (ai (qFz h 2 3 rfl (sb := (sb.drop 32)) (e := (gfE (sb.take 32))) (a := ins (gP g) 2 1 (z4G)) (b := gP { g with q2 := (gfV (sb.take 32)) }) (by rw [qM h0]; kernel_rfl)) (ai (nez h0) (ai (pt hl) (ai (pt hl) tt0))))
theorem YQ (h : QH) (g : GT) (sb : LU0) (e : Int) (h0 : e ≠ 0) : pQ (qAz h g sb e 2).aa .normal (qAz h { g with q2 := 0 } sb e 3).aa :=
 qR (os := oL [(274, wT)]) (by kernel_rfl) (ai (qFz h 2 3 rfl (sb := sb) (e := e) (a := ins (gP g) 2 1 (z4G)) (b := gP { g with q2 := 0 }) (by kernel_rfl)) (ai (nez h0) tt0))
theorem abU (h : QH) (g : GT) (st : Int × LU0) (hl : st.1 = 0 -> 32 <= st.2.length) : pQ (qAz h g st.2 st.1 2).aa .normal (qAz h { g with q2 := rvl 32 gfV 0 st } (rst 32 gfE st).2 (rst 32 gfE st).1 3).aa := by
 obtain ⟨e, sb⟩ := st
 by_cases h0 : e = 0
 ·subst h0
  by_cases h1 : gfE (sb.take 32) = 0
  ·exact aaT h g sb 0 (hl rfl) h1
  ·exact aa0 h g sb 0 (hl rfl) h1
 ·rw [show rst 32 gfE (e, sb) = (e, sb) from if_neg h0, show rvl 32 gfV 0 (e, sb) = 0 from if_neg h0]
  exact YQ h g sb e h0
theorem Z9 (h : QH) (g : GT) (sb : LU0) (e : Int) (hl : 32 <= sb.length) (h0 : (gfE (sb.take 32)) = 0) : pQ (qAz h g sb 0 3).aa .normal (qAz h { g with q3 := (gfV (sb.take 32)) } (sb.drop 32) (gfE (sb.take 32)) 4).aa :=
 qR (os := oL [(281, rO 5 0), (295, rO 5 0), (313, wF)]) (by kernel_rfl) (ai (qFz h 3 4 rfl (sb := (sb.drop 32)) (e := (gfE (sb.take 32))) (a := ins (gP g) 3 1 ([.n 4 (gfV (sb.take 32))])) (b := gP { g with q3 := (gfV (sb.take 32)) }) (by kernel_rfl)) (ai (eqz h0) (ai (pt hl) (ai (pt hl) tt0))))
theorem XT (h : QH) (g : GT) (sb : LU0) (e : Int) (hl : 32 <= sb.length) (h0 : (gfE (sb.take 32)) ≠ 0) : pQ (qAz h g sb 0 3).aa .normal (qAz h { g with q3 := (gfV (sb.take 32)) } (sb.drop 32) (gfE (sb.take 32)) 4).aa :=
 qR (os := oL [(281, rO 5 0), (295, rO 5 0), (313, wT)]) (by kernel_rfl) (ai (qFz h 3 4 rfl (sb := (sb.drop 32)) (e := (gfE (sb.take 32))) (a := ins (gP g) 3 1 (z4G)) (b := gP { g with q3 := (gfV (sb.take 32)) }) (by rw [qM h0]; kernel_rfl)) (ai (nez h0) (ai (pt hl) (ai (pt hl) tt0))))
theorem aaG (h : QH) (g : GT) (sb : LU0) (e : Int) (h0 : e ≠ 0) : pQ (qAz h g sb e 3).aa .normal (qAz h { g with q3 := 0 } sb e 4).aa :=
 qR (os := oL [(274, wT)]) (by kernel_rfl) (ai (qFz h 3 4 rfl (sb := sb) (e := e) (a := ins (gP g) 3 1 (z4G)) (b := gP { g with q3 := 0 }) (by kernel_rfl)) (ai (nez h0) tt0))
theorem ab1 (h : QH) (g : GT) (st : Int × LU0) (hl : st.1 = 0 -> 32 <= st.2.length) : pQ (qAz h g st.2 st.1 3).aa .normal (qAz h { g with q3 := rvl 32 gfV 0 st } (rst 32 gfE st).2 (rst 32 gfE st).1 4).aa := by
 obtain ⟨e, sb⟩ := st
 by_cases h0 : e = 0
 ·subst h0
  by_cases h1 : gfE (sb.take 32) = 0
  ·exact Z9 h g sb 0 (hl rfl) h1
  ·exact XT h g sb 0 (hl rfl) h1
 ·rw [show rst 32 gfE (e, sb) = (e, sb) from if_neg h0, show rvl 32 gfV 0 (e, sb) = 0 from if_neg h0]
  exact aaG h g sb e h0
theorem aaO (h : QH) (g : GT) (sb : LU0) (e : Int) (hl : 32 <= sb.length) (h0 : (gfE (sb.take 32)) = 0) : pQ (qAz h g sb 0 4).aa .normal (qAz h { g with q4 := (gfV (sb.take 32)) } (sb.drop 32) (gfE (sb.take 32)) 5).aa :=
 qR (os := oL [(281, rO 5 0), (295, rO 5 0), (313, wF)]) (by kernel_rfl) (ai (qFz h 4 5 rfl (sb := (sb.drop 32)) (e := (gfE (sb.take 32))) (a := ins (gP g) 4 1 ([.n 4 (gfV (sb.take 32))])) (b := gP { g with q4 := (gfV (sb.take 32)) }) (by kernel_rfl)) (ai (eqz h0) (ai (pt hl) (ai (pt hl) tt0))))
theorem ZY (h : QH) (g : GT) (sb : LU0) (e : Int) (hl : 32 <= sb.length) (h0 : (gfE (sb.take 32)) ≠ 0) : pQ (qAz h g sb 0 4).aa .normal (qAz h { g with q4 := (gfV (sb.take 32)) } (sb.drop 32) (gfE (sb.take 32)) 5).aa :=
 qR (os := oL [(281, rO 5 0), (295, rO 5 0), (313, wT)]) (by kernel_rfl) (ai (qFz h 4 5 rfl (sb := (sb.drop 32)) (e := (gfE (sb.take 32))) (a := ins (gP g) 4 1 (z4G)) (b := gP { g with q4 := (gfV (sb.take 32)) }) (by rw [qM h0]; kernel_rfl)) (ai (nez h0) (ai (pt hl) (ai (pt hl) tt0))))
theorem Zx (h : QH) (g : GT) (sb : LU0) (e : Int) (h0 : e ≠ 0) : pQ (qAz h g sb e 4).aa .normal (qAz h { g with q4 := 0 } sb e 5).aa :=
 qR (os := oL [(274, wT)]) (by kernel_rfl) (ai (qFz h 4 5 rfl (sb := sb) (e := e) (a := ins (gP g) 4 1 (z4G)) (b := gP { g with q4 := 0 }) (by kernel_rfl)) (ai (nez h0) tt0))
theorem ab2 (h : QH) (g : GT) (st : Int × LU0) (hl : st.1 = 0 -> 32 <= st.2.length) : pQ (qAz h g st.2 st.1 4).aa .normal (qAz h { g with q4 := rvl 32 gfV 0 st } (rst 32 gfE st).2 (rst 32 gfE st).1 5).aa := by
 obtain ⟨e, sb⟩ := st
 by_cases h0 : e = 0
 ·subst h0
  by_cases h1 : gfE (sb.take 32) = 0
  ·exact aaO h g sb 0 (hl rfl) h1
  ·exact ZY h g sb 0 (hl rfl) h1
 ·rw [show rst 32 gfE (e, sb) = (e, sb) from if_neg h0, show rvl 32 gfV 0 (e, sb) = 0 from if_neg h0]
  exact Zx h g sb e h0
def MR {sb : LU0} {m : Nat} (hm : c4 sb = m) (h4 : 4 <= sb.length) := PLift.up (ai (show decide (((m : Nat) : Int) > 4294967295) = false from decide_eq_false (by have := xr sb; omega)) (ai (cs4 h4) (ai (uM hm) (ai (cw sb 3) (ai (cid 3 h4 (by decide)) (ai (uH sb) (ai (Cz (pA sb 2)) (ai (cw sb 2) (ai (cid 2 h4 (by decide)) (ai (uF sb) (ai (zh (pA sb 1)) (ai (cw sb 1) (ai (cid 1 h4 (by decide)) (ai (zs (pA sb 0)) (ai (cw sb 0) (ai (cid 0 h4 (by decide)) (ai (clt h4) tt0)))))))))))))))))
def za (sb : LU0) (m : Nat) : LO0 := [(572, wF), (583, rO 1 (cn sb 0)), (584, tn (cn sb 0)), (585, tn (cn sb 0 * 16777216)), (590, rO 1 (cn sb 1)), (591, tn (cn sb 1)), (592, tn (cn sb 1 * 65536)), (593, tn (co1 sb)), (598, rO 1 (cn sb 2)), (599, tn (cn sb 2)), (600, tn (cn sb 2 * 256)), (601, tn (co2 sb)), (606, rO 1 (cn sb 3)), (607, tn (cn sb 3)), (608, tn (m)), (615, rO 5 0), (621, wF), (627, wF), (629, { ch := 1, hi := fun _ => m })]
def zo {sb : LU0} {m : Nat} (hm : c4 sb = m) (h4 : 4 <= sb.length) (h0 : m ≠ 4294967295) := PLift.up (ai (show IntKind.i64.wrap ((m : Nat) : Int) = ((m : Nat) : Int) from py (by have := xr sb; omega)) (ai (show (((m : Nat) : Int) == 4294967295) = false from beq_eq_false_iff_ne.2 (by omega))
   (MR hm h4).down))
theorem qL {c : Code} {I L : LState} {ex : Ex} {b : Prop} (o : LO0) (k : Nat) (sk hk : List Nat) (hb : b) (h : vj prog (pC _) [] 3 (oL o) 0 false c k I sk hk [] = some (ex, L, b) := by kernel_rfl) : Sound prog 0 false c I.aa ex L.aa := pG (P := prog) (X := pC _) (env := []) trivial h hb
abbrev qd (a : AA) (e : Ex) (b : AA) : Prop := Sound prog 0 false (pI f9 2) a e b
theorem aae (h : QH) (g : GT) (sb : LU0) (e : Int) (m : Nat) (hm : c4 sb = m) (h4 : 4 <= sb.length) (h0 : m ≠ 4294967295) : qd (qCz h g sb 0 0).aa .normal (qCz h { g with w0 := ((m : Nat) : Int) } (sb.drop 4) 0 1).aa :=
 qL (za sb m) 554 [2, 4, 7, 8, 9, 31, 32, 53] [0, 23, 244, 254] (zo hm h4 h0).down
def yY (sb : LU0) (m : Nat) : LO0 := [(572, wF), (583, rO 1 (cn sb 0)), (584, tn (cn sb 0)), (585, tn (cn sb 0 * 16777216)), (590, rO 1 (cn sb 1)), (591, tn (cn sb 1)), (592, tn (cn sb 1 * 65536)), (593, tn (co1 sb)), (598, rO 1 (cn sb 2)), (599, tn (cn sb 2)), (600, tn (cn sb 2 * 256)), (601, tn (co2 sb)), (606, rO 1 (cn sb 3)), (607, tn (cn sb 3)), (608, tn (m)), (615, rO 5 0), (621, wF), (627, wT)]
def zb {sb : LU0} {m : Nat} (hm : c4 sb = m) (h4 : 4 <= sb.length) (h0 : m = 4294967295) := PLift.up (ai (show (((m : Nat) : Int) == 4294967295) = true from beq_iff_eq.2 (by omega))
   (MR hm h4).down)
theorem Zv (h : QH) (g : GT) (sb : LU0) (e : Int) (m : Nat) (hm : c4 sb = m) (h4 : 4 <= sb.length) (h0 : m = 4294967295) : qd (qCz h g sb 0 0).aa .normal (qCz h { g with w0 := (-1) } (sb.drop 4) 0 1).aa :=
 qL (yY sb m) 554 [2, 4, 7, 8, 9, 31, 32, 53] [0, 23, 244, 254] (zb hm h4 h0).down
def zt {e : Int} (h0 : e ≠ 0) := PLift.up (ai (show (e != 0) = true from by simpa using h0) (ai (show (e == 0) = false from by simpa using h0) tt0))
def zx : LO0 := [(565, wF), (578, wT)]
theorem ZV (h : QH) (g : GT) (sb : LU0) (e : Int) (h0 : e ≠ 0) : qd (qCz h g sb e 0).aa .normal (qCz h { g with w0 := 0 } sb e 1).aa :=
 qL zx 554 [2, 4, 7, 8, 9, 31, 32, 53] [0, 23, 244, 254] (zt h0).down
theorem abq (h : QH) (g : GT) (st : Int × LU0) (hl : st.1 = 0 -> 4 <= st.2.length) : qd (qCz h g st.2 st.1 0).aa .normal (qCz h { g with w0 := rvl 4 wV 0 st } (rst 4 noE st).2 (rst 4 noE st).1 1).aa := by
 obtain ⟨e, sb⟩ := st
 by_cases h0 : e = 0
 ·subst h0
  rw [show rst 4 noE (0, sb) = (0, sb.drop 4) from rfl, show rvl 4 wV 0 (0, sb) = wV (sb.take 4) from if_pos rfl]
  by_cases h1 : c4 sb = 4294967295
  ·rw [zc h1]; exact Zv h g sb 0 _ rfl (hl rfl) h1
  ·rw [zC h1]; exact aae h g sb 0 _ rfl (hl rfl) h1
 ·rw [show rst 4 noE (e, sb) = (e, sb) from if_neg h0, show rvl 4 wV 0 (e, sb) = 0 from if_neg h0]
  exact ZV h g sb e h0
theorem Xe (h : QH) (g : GT) (sb : LU0) (e : Int) (m : Nat) (hm : c4 sb = m) (h4 : 4 <= sb.length) (h0 : m ≠ 4294967295) : qd (qCz h g sb 0 1).aa .normal (qCz h { g with w1 := ((m : Nat) : Int) } (sb.drop 4) 0 2).aa :=
 qL (za sb m) 554 [2, 4, 7, 8, 9, 31, 32, 53] [0, 23, 244, 254] (zo hm h4 h0).down
theorem aaL (h : QH) (g : GT) (sb : LU0) (e : Int) (m : Nat) (hm : c4 sb = m) (h4 : 4 <= sb.length) (h0 : m = 4294967295) : qd (qCz h g sb 0 1).aa .normal (qCz h { g with w1 := (-1) } (sb.drop 4) 0 2).aa :=
 qL (yY sb m) 554 [2, 4, 7, 8, 9, 31, 32, 53] [0, 23, 244, 254] (zb hm h4 h0).down
theorem Xj (h : QH) (g : GT) (sb : LU0) (e : Int) (h0 : e ≠ 0) : qd (qCz h g sb e 1).aa .normal (qCz h { g with w1 := 0 } sb e 2).aa :=
 qL zx 554 [2, 4, 7, 8, 9, 31, 32, 53] [0, 23, 244, 254] (zt h0).down
theorem abA (h : QH) (g : GT) (st : Int × LU0) (hl : st.1 = 0 -> 4 <= st.2.length) : qd (qCz h g st.2 st.1 1).aa .normal (qCz h { g with w1 := rvl 4 wV 0 st } (rst 4 noE st).2 (rst 4 noE st).1 2).aa := by
 obtain ⟨e, sb⟩ := st
 by_cases h0 : e = 0
 ·subst h0
  rw [show rst 4 noE (0, sb) = (0, sb.drop 4) from rfl, show rvl 4 wV 0 (0, sb) = wV (sb.take 4) from if_pos rfl]
  by_cases h1 : c4 sb = 4294967295
  ·rw [zc h1]; exact aaL h g sb 0 _ rfl (hl rfl) h1
  ·rw [zC h1]; exact Xe h g sb 0 _ rfl (hl rfl) h1
 ·rw [show rst 4 noE (e, sb) = (e, sb) from if_neg h0, show rvl 4 wV 0 (e, sb) = 0 from if_neg h0]
  exact Xj h g sb e h0
theorem ZE (h : QH) (g : GT) (sb : LU0) (e : Int) (m : Nat) (hm : c4 sb = m) (h4 : 4 <= sb.length) (h0 : m ≠ 4294967295) : qd (qCz h g sb 0 2).aa .normal (qCz h { g with w2 := ((m : Nat) : Int) } (sb.drop 4) 0 3).aa :=
 qL (za sb m) 554 [2, 4, 7, 8, 9, 31, 32, 53] [0, 23, 244, 254] (zo hm h4 h0).down
theorem Xc (h : QH) (g : GT) (sb : LU0) (e : Int) (m : Nat) (hm : c4 sb = m) (h4 : 4 <= sb.length) (h0 : m = 4294967295) : qd (qCz h g sb 0 2).aa .normal (qCz h { g with w2 := (-1) } (sb.drop 4) 0 3).aa :=
 qL (yY sb m) 554 [2, 4, 7, 8, 9, 31, 32, 53] [0, 23, 244, 254] (zb hm h4 h0).down
theorem Yg (h : QH) (g : GT) (sb : LU0) (e : Int) (h0 : e ≠ 0) : qd (qCz h g sb e 2).aa .normal (qCz h { g with w2 := 0 } sb e 3).aa :=
 qL zx 554 [2, 4, 7, 8, 9, 31, 32, 53] [0, 23, 244, 254] (zt h0).down
theorem acK (h : QH) (g : GT) (st : Int × LU0) (hl : st.1 = 0 -> 4 <= st.2.length) : qd (qCz h g st.2 st.1 2).aa .normal (qCz h { g with w2 := rvl 4 wV 0 st } (rst 4 noE st).2 (rst 4 noE st).1 3).aa := by
 obtain ⟨e, sb⟩ := st
 by_cases h0 : e = 0
 ·subst h0
  rw [show rst 4 noE (0, sb) = (0, sb.drop 4) from rfl, show rvl 4 wV 0 (0, sb) = wV (sb.take 4) from if_pos rfl]
  by_cases h1 : c4 sb = 4294967295
  ·rw [zc h1]; exact Xc h g sb 0 _ rfl (hl rfl) h1
  ·rw [zC h1]; exact ZE h g sb 0 _ rfl (hl rfl) h1
 ·rw [show rst 4 noE (e, sb) = (e, sb) from if_neg h0, show rvl 4 wV 0 (e, sb) = 0 from if_neg h0]
  exact Yg h g sb e h0
theorem YL (h : QH) (C : List Value) (i : Nat) (g : GT) (sb : LU0) (e : Int) (hl : 32 <= sb.length) (h0 : (gfE (sb.take 32)) = 0) : pQ (qAr h C i g sb 0 0).aa .normal (qAr h C i { g with q0 := (gfV (sb.take 32)) } (sb.drop 32) (gfE (sb.take 32)) 1).aa :=
 qR (os := oL [(281, rO 5 0), (295, rO 5 0), (313, wF)]) (by kernel_rfl) (ai (qFr h C i 0 1 rfl (sb := (sb.drop 32)) (e := (gfE (sb.take 32))) (a := ins (gP g) 0 1 ([.n 4 (gfV (sb.take 32))])) (b := gP { g with q0 := (gfV (sb.take 32)) }) (by kernel_rfl)) (ai (eqz h0) (ai (pt hl) (ai (pt hl) tt0))))
theorem aai (h : QH) (C : List Value) (i : Nat) (g : GT) (sb : LU0) (e : Int) (hl : 32 <= sb.length) (h0 : (gfE (sb.take 32)) ≠ 0) : pQ (qAr h C i g sb 0 0).aa .normal (qAr h C i { g with q0 := (gfV (sb.take 32)) } (sb.drop 32) (gfE (sb.take 32)) 1).aa :=
 qR (os := oL [(281, rO 5 0), (295, rO 5 0), (313, wT)]) (by kernel_rfl) (ai (qFr h C i 0 1 rfl (sb := (sb.drop 32)) (e := (gfE (sb.take 32))) (a := ins (gP g) 0 1 (z4G)) (b := gP { g with q0 := (gfV (sb.take 32)) }) (by rw [qM h0]; kernel_rfl)) (ai (nez h0) (ai (pt hl) (ai (pt hl) tt0))))
theorem YG (h : QH) (C : List Value) (i : Nat) (g : GT) (sb : LU0) (e : Int) (h0 : e ≠ 0) : pQ (qAr h C i g sb e 0).aa .normal (qAr h C i { g with q0 := 0 } sb e 1).aa :=
 qR (os := oL [(274, wT)]) (by kernel_rfl) (ai (qFr h C i 0 1 rfl (sb := sb) (e := e) (a := ins (gP g) 0 1 (z4G)) (b := gP { g with q0 := 0 }) (by kernel_rfl)) (ai (nez h0) tt0))
theorem abT (h : QH) (C : List Value) (i : Nat) (g : GT) (st : Int × LU0) (hl : st.1 = 0 -> 32 <= st.2.length) : pQ (qAr h C i g st.2 st.1 0).aa .normal (qAr h C i { g with q0 := rvl 32 gfV 0 st } (rst 32 gfE st).2 (rst 32 gfE st).1 1).aa := by
 obtain ⟨e, sb⟩ := st
 by_cases h0 : e = 0
 ·subst h0
  by_cases h1 : gfE (sb.take 32) = 0
  ·exact YL h C i g sb 0 (hl rfl) h1
  ·exact aai h C i g sb 0 (hl rfl) h1
 ·rw [show rst 32 gfE (e, sb) = (e, sb) from if_neg h0, show rvl 32 gfV 0 (e, sb) = 0 from if_neg h0]
  exact YG h C i g sb e h0
theorem ZB (h : QH) (C : List Value) (i : Nat) (g : GT) (sb : LU0) (e : Int) (hl : 32 <= sb.length) (h0 : (gfE (sb.take 32)) = 0) : pQ (qAr h C i g sb 0 1).aa .normal (qAr h C i { g with q1 := (gfV (sb.take 32)) } (sb.drop 32) (gfE (sb.take 32)) 2).aa :=
 qR (os := oL [(281, rO 5 0), (295, rO 5 0), (313, wF)]) (by kernel_rfl) (ai (qFr h C i 1 2 rfl (sb := (sb.drop 32)) (e := (gfE (sb.take 32))) (a := ins (gP g) 1 1 ([.n 4 (gfV (sb.take 32))])) (b := gP { g with q1 := (gfV (sb.take 32)) }) (by kernel_rfl)) (ai (eqz h0) (ai (pt hl) (ai (pt hl) tt0))))
theorem XY (h : QH) (C : List Value) (i : Nat) (g : GT) (sb : LU0) (e : Int) (hl : 32 <= sb.length) (h0 : (gfE (sb.take 32)) ≠ 0) : pQ (qAr h C i g sb 0 1).aa .normal (qAr h C i { g with q1 := (gfV (sb.take 32)) } (sb.drop 32) (gfE (sb.take 32)) 2).aa :=
 qR (os := oL [(281, rO 5 0), (295, rO 5 0), (313, wT)]) (by kernel_rfl) (ai (qFr h C i 1 2 rfl (sb := (sb.drop 32)) (e := (gfE (sb.take 32))) (a := ins (gP g) 1 1 (z4G)) (b := gP { g with q1 := (gfV (sb.take 32)) }) (by rw [qM h0]; kernel_rfl)) (ai (nez h0) (ai (pt hl) (ai (pt hl) tt0))))
theorem Yi (h : QH) (C : List Value) (i : Nat) (g : GT) (sb : LU0) (e : Int) (h0 : e ≠ 0) : pQ (qAr h C i g sb e 1).aa .normal (qAr h C i { g with q1 := 0 } sb e 2).aa :=
 qR (os := oL [(274, wT)]) (by kernel_rfl) (ai (qFr h C i 1 2 rfl (sb := sb) (e := e) (a := ins (gP g) 1 1 (z4G)) (b := gP { g with q1 := 0 }) (by kernel_rfl)) (ai (nez h0) tt0))
theorem ab0 (h : QH) (C : List Value) (i : Nat) (g : GT) (st : Int × LU0) (hl : st.1 = 0 -> 32 <= st.2.length) : pQ (qAr h C i g st.2 st.1 1).aa .normal (qAr h C i { g with q1 := rvl 32 gfV 0 st } (rst 32 gfE st).2 (rst 32 gfE st).1 2).aa := by
 obtain ⟨e, sb⟩ := st
 by_cases h0 : e = 0
 ·subst h0
  by_cases h1 : gfE (sb.take 32) = 0
  ·exact ZB h C i g sb 0 (hl rfl) h1
  ·exact XY h C i g sb 0 (hl rfl) h1
 ·rw [show rst 32 gfE (e, sb) = (e, sb) from if_neg h0, show rvl 32 gfV 0 (e, sb) = 0 from if_neg h0]
  exact Yi h C i g sb e h0
theorem Xz (h : QH) (C : List Value) (i : Nat) (g : GT) (sb : LU0) (e : Int) (hl : 32 <= sb.length) (h0 : (gfE (sb.take 32)) = 0) : pQ (qAr h C i g sb 0 2).aa .normal (qAr h C i { g with q2 := (gfV (sb.take 32)) } (sb.drop 32) (gfE (sb.take 32)) 3).aa :=
 qR (os := oL [(281, rO 5 0), (295, rO 5 0), (313, wF)]) (by kernel_rfl) (ai (qFr h C i 2 3 rfl (sb := (sb.drop 32)) (e := (gfE (sb.take 32))) (a := ins (gP g) 2 1 ([.n 4 (gfV (sb.take 32))])) (b := gP { g with q2 := (gfV (sb.take 32)) }) (by kernel_rfl)) (ai (eqz h0) (ai (pt hl) (ai (pt hl) tt0))))
theorem aaK (h : QH) (C : List Value) (i : Nat) (g : GT) (sb : LU0) (e : Int) (hl : 32 <= sb.length) (h0 : (gfE (sb.take 32)) ≠ 0) : pQ (qAr h C i g sb 0 2).aa .normal (qAr h C i { g with q2 := (gfV (sb.take 32)) } (sb.drop 32) (gfE (sb.take 32)) 3).aa :=
 qR (os := oL [(281, rO 5 0), (295, rO 5 0), (313, wT)]) (by kernel_rfl) (ai (qFr h C i 2 3 rfl (sb := (sb.drop 32)) (e := (gfE (sb.take 32))) (a := ins (gP g) 2 1 (z4G)) (b := gP { g with q2 := (gfV (sb.take 32)) }) (by rw [qM h0]; kernel_rfl)) (ai (nez h0) (ai (pt hl) (ai (pt hl) tt0))))
theorem aa2 (h : QH) (C : List Value) (i : Nat) (g : GT) (sb : LU0) (e : Int) (h0 : e ≠ 0) : pQ (qAr h C i g sb e 2).aa .normal (qAr h C i { g with q2 := 0 } sb e 3).aa :=
 qR (os := oL [(274, wT)]) (by kernel_rfl) (ai (qFr h C i 2 3 rfl (sb := sb) (e := e) (a := ins (gP g) 2 1 (z4G)) (b := gP { g with q2 := 0 }) (by kernel_rfl)) (ai (nez h0) tt0))
theorem abK (h : QH) (C : List Value) (i : Nat) (g : GT) (st : Int × LU0) (hl : st.1 = 0 -> 32 <= st.2.length) : pQ (qAr h C i g st.2 st.1 2).aa .normal (qAr h C i { g with q2 := rvl 32 gfV 0 st } (rst 32 gfE st).2 (rst 32 gfE st).1 3).aa := by
 obtain ⟨e, sb⟩ := st
 by_cases h0 : e = 0
 ·subst h0
  by_cases h1 : gfE (sb.take 32) = 0
  ·exact Xz h C i g sb 0 (hl rfl) h1
  ·exact aaK h C i g sb 0 (hl rfl) h1
 ·rw [show rst 32 gfE (e, sb) = (e, sb) from if_neg h0, show rvl 32 gfV 0 (e, sb) = 0 from if_neg h0]
  exact aa2 h C i g sb e h0
theorem XA (h : QH) (C : List Value) (i : Nat) (g : GT) (sb : LU0) (e : Int) (hl : 32 <= sb.length) (h0 : (gfE (sb.take 32)) = 0) : pQ (qAr h C i g sb 0 3).aa .normal (qAr h C i { g with q3 := (gfV (sb.take 32)) } (sb.drop 32) (gfE (sb.take 32)) 4).aa :=
 qR (os := oL [(281, rO 5 0), (295, rO 5 0), (313, wF)]) (by kernel_rfl) (ai (qFr h C i 3 4 rfl (sb := (sb.drop 32)) (e := (gfE (sb.take 32))) (a := ins (gP g) 3 1 ([.n 4 (gfV (sb.take 32))])) (b := gP { g with q3 := (gfV (sb.take 32)) }) (by kernel_rfl)) (ai (eqz h0) (ai (pt hl) (ai (pt hl) tt0))))
theorem X7 (h : QH) (C : List Value) (i : Nat) (g : GT) (sb : LU0) (e : Int) (hl : 32 <= sb.length) (h0 : (gfE (sb.take 32)) ≠ 0) : pQ (qAr h C i g sb 0 3).aa .normal (qAr h C i { g with q3 := (gfV (sb.take 32)) } (sb.drop 32) (gfE (sb.take 32)) 4).aa :=
 qR (os := oL [(281, rO 5 0), (295, rO 5 0), (313, wT)]) (by kernel_rfl) (ai (qFr h C i 3 4 rfl (sb := (sb.drop 32)) (e := (gfE (sb.take 32))) (a := ins (gP g) 3 1 (z4G)) (b := gP { g with q3 := (gfV (sb.take 32)) }) (by rw [qM h0]; kernel_rfl)) (ai (nez h0) (ai (pt hl) (ai (pt hl) tt0))))
theorem Yt (h : QH) (C : List Value) (i : Nat) (g : GT) (sb : LU0) (e : Int) (h0 : e ≠ 0) : pQ (qAr h C i g sb e 3).aa .normal (qAr h C i { g with q3 := 0 } sb e 4).aa :=
 qR (os := oL [(274, wT)]) (by kernel_rfl) (ai (qFr h C i 3 4 rfl (sb := sb) (e := e) (a := ins (gP g) 3 1 (z4G)) (b := gP { g with q3 := 0 }) (by kernel_rfl)) (ai (nez h0) tt0))
theorem acp (h : QH) (C : List Value) (i : Nat) (g : GT) (st : Int × LU0) (hl : st.1 = 0 -> 32 <= st.2.length) : pQ (qAr h C i g st.2 st.1 3).aa .normal (qAr h C i { g with q3 := rvl 32 gfV 0 st } (rst 32 gfE st).2 (rst 32 gfE st).1 4).aa := by
 obtain ⟨e, sb⟩ := st
 by_cases h0 : e = 0
 ·subst h0
  by_cases h1 : gfE (sb.take 32) = 0
  ·exact XA h C i g sb 0 (hl rfl) h1
  ·exact X7 h C i g sb 0 (hl rfl) h1
 ·rw [show rst 32 gfE (e, sb) = (e, sb) from if_neg h0, show rvl 32 gfV 0 (e, sb) = 0 from if_neg h0]
  exact Yt h C i g sb e h0
theorem W4 (h : QH) (C : List Value) (i : Nat) (g : GT) (sb : LU0) (e : Int) (hl : 32 <= sb.length) (h0 : (gfE (sb.take 32)) = 0) : pQ (qAr h C i g sb 0 4).aa .normal (qAr h C i { g with q4 := (gfV (sb.take 32)) } (sb.drop 32) (gfE (sb.take 32)) 5).aa :=
 qR (os := oL [(281, rO 5 0), (295, rO 5 0), (313, wF)]) (by kernel_rfl) (ai (qFr h C i 4 5 rfl (sb := (sb.drop 32)) (e := (gfE (sb.take 32))) (a := ins (gP g) 4 1 ([.n 4 (gfV (sb.take 32))])) (b := gP { g with q4 := (gfV (sb.take 32)) }) (by kernel_rfl)) (ai (eqz h0) (ai (pt hl) (ai (pt hl) tt0))))
theorem Xx (h : QH) (C : List Value) (i : Nat) (g : GT) (sb : LU0) (e : Int) (hl : 32 <= sb.length) (h0 : (gfE (sb.take 32)) ≠ 0) : pQ (qAr h C i g sb 0 4).aa .normal (qAr h C i { g with q4 := (gfV (sb.take 32)) } (sb.drop 32) (gfE (sb.take 32)) 5).aa :=
 qR (os := oL [(281, rO 5 0), (295, rO 5 0), (313, wT)]) (by kernel_rfl) (ai (qFr h C i 4 5 rfl (sb := (sb.drop 32)) (e := (gfE (sb.take 32))) (a := ins (gP g) 4 1 (z4G)) (b := gP { g with q4 := (gfV (sb.take 32)) }) (by rw [qM h0]; kernel_rfl)) (ai (nez h0) (ai (pt hl) (ai (pt hl) tt0))))
theorem YS (h : QH) (C : List Value) (i : Nat) (g : GT) (sb : LU0) (e : Int) (h0 : e ≠ 0) : pQ (qAr h C i g sb e 4).aa .normal (qAr h C i { g with q4 := 0 } sb e 5).aa :=
 qR (os := oL [(274, wT)]) (by kernel_rfl) (ai (qFr h C i 4 5 rfl (sb := sb) (e := e) (a := ins (gP g) 4 1 (z4G)) (b := gP { g with q4 := 0 }) (by kernel_rfl)) (ai (nez h0) tt0))
theorem abi (h : QH) (C : List Value) (i : Nat) (g : GT) (st : Int × LU0) (hl : st.1 = 0 -> 32 <= st.2.length) : pQ (qAr h C i g st.2 st.1 4).aa .normal (qAr h C i { g with q4 := rvl 32 gfV 0 st } (rst 32 gfE st).2 (rst 32 gfE st).1 5).aa := by
 obtain ⟨e, sb⟩ := st
 by_cases h0 : e = 0
 ·subst h0
  by_cases h1 : gfE (sb.take 32) = 0
  ·exact W4 h C i g sb 0 (hl rfl) h1
  ·exact Xx h C i g sb 0 (hl rfl) h1
 ·rw [show rst 32 gfE (e, sb) = (e, sb) from if_neg h0, show rvl 32 gfV 0 (e, sb) = 0 from if_neg h0]
  exact YS h C i g sb e h0
theorem Yb (h : QH) (C : List Value) (i : Nat) (g : GT) (sb : LU0) (e : Int) (m : Nat) (hm : c4 sb = m) (h4 : 4 <= sb.length) (h0 : m ≠ 4294967295) : qd (qCr h C i g sb 0 0).aa .normal (qCr h C i { g with w0 := ((m : Nat) : Int) } (sb.drop 4) 0 1).aa :=
 qL (za sb m) 554 [2, 4, 7, 8, 9, 31, 32, 53] [0, 23, 244, 254, 24] (zo hm h4 h0).down
theorem aav (h : QH) (C : List Value) (i : Nat) (g : GT) (sb : LU0) (e : Int) (m : Nat) (hm : c4 sb = m) (h4 : 4 <= sb.length) (h0 : m = 4294967295) : qd (qCr h C i g sb 0 0).aa .normal (qCr h C i { g with w0 := (-1) } (sb.drop 4) 0 1).aa :=
 qL (yY sb m) 554 [2, 4, 7, 8, 9, 31, 32, 53] [0, 23, 244, 254, 24] (zb hm h4 h0).down
theorem abe (h : QH) (C : List Value) (i : Nat) (g : GT) (sb : LU0) (e : Int) (h0 : e ≠ 0) : qd (qCr h C i g sb e 0).aa .normal (qCr h C i { g with w0 := 0 } sb e 1).aa :=
 qL zx 554 [2, 4, 7, 8, 9, 31, 32, 53] [0, 23, 244, 254, 24] (zt h0).down
theorem abg (h : QH) (C : List Value) (i : Nat) (g : GT) (st : Int × LU0) (hl : st.1 = 0 -> 4 <= st.2.length) : qd (qCr h C i g st.2 st.1 0).aa .normal (qCr h C i { g with w0 := rvl 4 wV 0 st } (rst 4 noE st).2 (rst 4 noE st).1 1).aa := by
 obtain ⟨e, sb⟩ := st
 by_cases h0 : e = 0
 ·subst h0
  rw [show rst 4 noE (0, sb) = (0, sb.drop 4) from rfl, show rvl 4 wV 0 (0, sb) = wV (sb.take 4) from if_pos rfl]
  by_cases h1 : c4 sb = 4294967295
  ·rw [zc h1]; exact aav h C i g sb 0 _ rfl (hl rfl) h1
  ·rw [zC h1]; exact Yb h C i g sb 0 _ rfl (hl rfl) h1
 ·rw [show rst 4 noE (e, sb) = (e, sb) from if_neg h0, show rvl 4 wV 0 (e, sb) = 0 from if_neg h0]
  exact abe h C i g sb e h0
theorem Xs (h : QH) (C : List Value) (i : Nat) (g : GT) (sb : LU0) (e : Int) (m : Nat) (hm : c4 sb = m) (h4 : 4 <= sb.length) (h0 : m ≠ 4294967295) : qd (qCr h C i g sb 0 1).aa .normal (qCr h C i { g with w1 := ((m : Nat) : Int) } (sb.drop 4) 0 2).aa :=
 qL (za sb m) 554 [2, 4, 7, 8, 9, 31, 32, 53] [0, 23, 244, 254, 24] (zo hm h4 h0).down
theorem Zy (h : QH) (C : List Value) (i : Nat) (g : GT) (sb : LU0) (e : Int) (m : Nat) (hm : c4 sb = m) (h4 : 4 <= sb.length) (h0 : m = 4294967295) : qd (qCr h C i g sb 0 1).aa .normal (qCr h C i { g with w1 := (-1) } (sb.drop 4) 0 2).aa :=
 qL (yY sb m) 554 [2, 4, 7, 8, 9, 31, 32, 53] [0, 23, 244, 254, 24] (zb hm h4 h0).down
theorem Xl (h : QH) (C : List Value) (i : Nat) (g : GT) (sb : LU0) (e : Int) (h0 : e ≠ 0) : qd (qCr h C i g sb e 1).aa .normal (qCr h C i { g with w1 := 0 } sb e 2).aa :=
 qL zx 554 [2, 4, 7, 8, 9, 31, 32, 53] [0, 23, 244, 254, 24] (zt h0).down
theorem acL (h : QH) (C : List Value) (i : Nat) (g : GT) (st : Int × LU0) (hl : st.1 = 0 -> 4 <= st.2.length) : qd (qCr h C i g st.2 st.1 1).aa .normal (qCr h C i { g with w1 := rvl 4 wV 0 st } (rst 4 noE st).2 (rst 4 noE st).1 2).aa := by
 obtain ⟨e, sb⟩ := st
 by_cases h0 : e = 0
 ·subst h0
  rw [show rst 4 noE (0, sb) = (0, sb.drop 4) from rfl, show rvl 4 wV 0 (0, sb) = wV (sb.take 4) from if_pos rfl]
  by_cases h1 : c4 sb = 4294967295
  ·rw [zc h1]; exact Zy h C i g sb 0 _ rfl (hl rfl) h1
  ·rw [zC h1]; exact Xs h C i g sb 0 _ rfl (hl rfl) h1
 ·rw [show rst 4 noE (e, sb) = (e, sb) from if_neg h0, show rvl 4 wV 0 (e, sb) = 0 from if_neg h0]
  exact Xl h C i g sb e h0
theorem aas (h : QH) (C : List Value) (i : Nat) (g : GT) (sb : LU0) (e : Int) (m : Nat) (hm : c4 sb = m) (h4 : 4 <= sb.length) (h0 : m ≠ 4294967295) : qd (qCr h C i g sb 0 2).aa .normal (qCr h C i { g with w2 := ((m : Nat) : Int) } (sb.drop 4) 0 3).aa :=
 qL (za sb m) 554 [2, 4, 7, 8, 9, 31, 32, 53] [0, 23, 244, 254, 24] (zo hm h4 h0).down
theorem XW (h : QH) (C : List Value) (i : Nat) (g : GT) (sb : LU0) (e : Int) (m : Nat) (hm : c4 sb = m) (h4 : 4 <= sb.length) (h0 : m = 4294967295) : qd (qCr h C i g sb 0 2).aa .normal (qCr h C i { g with w2 := (-1) } (sb.drop 4) 0 3).aa :=
 qL (yY sb m) 554 [2, 4, 7, 8, 9, 31, 32, 53] [0, 23, 244, 254, 24] (zb hm h4 h0).down
theorem Zz (h : QH) (C : List Value) (i : Nat) (g : GT) (sb : LU0) (e : Int) (h0 : e ≠ 0) : qd (qCr h C i g sb e 2).aa .normal (qCr h C i { g with w2 := 0 } sb e 3).aa :=
 qL zx 554 [2, 4, 7, 8, 9, 31, 32, 53] [0, 23, 244, 254, 24] (zt h0).down
theorem abn (h : QH) (C : List Value) (i : Nat) (g : GT) (st : Int × LU0) (hl : st.1 = 0 -> 4 <= st.2.length) : qd (qCr h C i g st.2 st.1 2).aa .normal (qCr h C i { g with w2 := rvl 4 wV 0 st } (rst 4 noE st).2 (rst 4 noE st).1 3).aa := by
 obtain ⟨e, sb⟩ := st
 by_cases h0 : e = 0
 ·subst h0
  rw [show rst 4 noE (0, sb) = (0, sb.drop 4) from rfl, show rvl 4 wV 0 (0, sb) = wV (sb.take 4) from if_pos rfl]
  by_cases h1 : c4 sb = 4294967295
  ·rw [zc h1]; exact XW h C i g sb 0 _ rfl (hl rfl) h1
  ·rw [zC h1]; exact aas h C i g sb 0 _ rfl (hl rfl) h1
 ·rw [show rst 4 noE (e, sb) = (e, sb) from if_neg h0, show rvl 4 wV 0 (e, sb) = 0 from if_neg h0]
  exact Zz h C i g sb e h0
def qfA (g : GT) (V : Nat -> Nat) (i : Nat) : GT := { g with q0 := if 0 < i then V 0 else g.q0, q1 := if 1 < i then V 1 else g.q1, q2 := if 2 < i then V 2 else g.q2, q3 := if 3 < i then V 3 else g.q3, q4 := if 4 < i then V 4 else g.q4 }
theorem Mh (st : Int × LU0) (h0 : st.1 = 0 -> 160 <= st.2.length) (i : Nat) (hi : i < 5) : (nst 32 gfE i st).1 = 0 -> 32 <= (nst 32 gfE i st).2.length := by
 intro h
 obtain ⟨h1, h2, _⟩ := p7 i st h
 rw [h2]
 show 32 <= (st.2.drop (32 * i)).length
 have := h0 h1
 rw [List.length_drop]
 omega
theorem Am {c : Code} {I L : LState} {ex : Ex} {b : Prop} (o : LO0) (k : Nat) (sk hk : List Nat) (hb : b) (h : vj prog (pC _) [] 0 (oL o) 0 false c k I sk hk [] = some (ex, L, b) := by kernel_rfl) : Sound prog 0 false c I.aa ex L.aa := pG (P := prog) (X := pC _) (env := []) trivial h hb
theorem R4 (h : QH) (g : GT) (sb : LU0) (e : Int) : pQ (qAz h g sb e 5).aa (.exit 2) (qBz h g sb e).aa :=
 Am [] 262 [2, 4, 7, 8, 9, 31, 32] [0, 23, 244, 254] trivial
theorem Rn (h : QH) (g : GT) (st : Int × LU0) (h0 : st.1 = 0 -> 160 <= st.2.length) : Sound prog 0 false (.loop (pI f9 1)) (qAz h (qfA g (fun j => rvl 32 gfV 0 (nst 32 gfE j st)) 0) st.2 st.1 0).aa (.exit 2) (qBz h (qfA g (fun j => rvl 32 gfV 0 (nst 32 gfE j st)) 5) (nst 32 gfE 5 st).2 (nst 32 gfE 5 st).1).aa := by
 have hh := qr (P := prog) (fb := 0) (rd := false) (body := (pI f9 1)) (ex := .exit 2) (E := qBz h (qfA g (fun j => rvl 32 gfV 0 (nst 32 gfE j st)) 5) (nst 32 gfE 5 st).2 (nst 32 gfE 5 st).1) (m := fun y : { i : Nat // i <= 5 } => 5 - y.val) (fun y => qAz h (qfA g (fun j => rvl 32 gfV 0 (nst 32 gfE j st)) y.val) (nst 32 gfE y.val st).2 (nst 32 gfE y.val st).1 (y.val : Int)) (by simp) (fun y => ?_) ⟨0, by omega⟩
 ·exact hh
 obtain ⟨m, hi⟩ := y
 by_cases e : m < 5
 ·refine .inl ⟨⟨m + 1, e⟩, by show 5 - (m + 1) < 5 - m; omega, ?_⟩
  have hl := Mh st h0 m e
  have e : m = 0 ∨ m = 1 ∨ m = 2 ∨ m = 3 ∨ m = 4 := by omega
  rcases e with rfl | rfl | rfl | rfl | rfl
  ·exact ab9 h (qfA g (fun j => rvl 32 gfV 0 (nst 32 gfE j st)) 0) (nst 32 gfE 0 st) hl
  ·exact abI h (qfA g (fun j => rvl 32 gfV 0 (nst 32 gfE j st)) 1) (nst 32 gfE 1 st) hl
  ·exact abU h (qfA g (fun j => rvl 32 gfV 0 (nst 32 gfE j st)) 2) (nst 32 gfE 2 st) hl
  ·exact ab1 h (qfA g (fun j => rvl 32 gfV 0 (nst 32 gfE j st)) 3) (nst 32 gfE 3 st) hl
  ·exact ab2 h (qfA g (fun j => rvl 32 gfV 0 (nst 32 gfE j st)) 4) (nst 32 gfE 4 st) hl
 ·have e : m = 5 := by omega
  subst e
  exact .inr (R4 h _ _ _)
def qfB (g : GT) (V : Nat -> Int) (i : Nat) : GT := { g with w0 := if 0 < i then V 0 else g.w0, w1 := if 1 < i then V 1 else g.w1, w2 := if 2 < i then V 2 else g.w2 }
theorem Qz (st : Int × LU0) (h0 : st.1 = 0 -> 12 <= st.2.length) (i : Nat) (hi : i < 3) : (nst 4 noE i st).1 = 0 -> 4 <= (nst 4 noE i st).2.length := by
 intro h
 obtain ⟨h1, h2, _⟩ := p7 i st h
 rw [h2]
 show 4 <= (st.2.drop (4 * i)).length
 have := h0 h1
 rw [List.length_drop]
 omega
theorem Sm (h : QH) (g : GT) (sb : LU0) (e : Int) : qd (qCz h g sb e 3).aa (.exit 4) (qBz h g sb e).aa :=
 Am [] 554 [2, 4, 7, 8, 9, 31, 32] [0, 23, 244, 254] trivial
theorem Sp (h : QH) (g : GT) (st : Int × LU0) (h0 : st.1 = 0 -> 12 <= st.2.length) : Sound prog 0 false (.loop (pI f9 2)) (qCz h (qfB g (fun j => rvl 4 wV 0 (nst 4 noE j st)) 0) st.2 st.1 0).aa (.exit 4) (qBz h (qfB g (fun j => rvl 4 wV 0 (nst 4 noE j st)) 3) (nst 4 noE 3 st).2 (nst 4 noE 3 st).1).aa := by
 have hh := qr (P := prog) (fb := 0) (rd := false) (body := (pI f9 2)) (ex := .exit 4) (E := qBz h (qfB g (fun j => rvl 4 wV 0 (nst 4 noE j st)) 3) (nst 4 noE 3 st).2 (nst 4 noE 3 st).1) (m := fun y : { i : Nat // i <= 3 } => 3 - y.val) (fun y => qCz h (qfB g (fun j => rvl 4 wV 0 (nst 4 noE j st)) y.val) (nst 4 noE y.val st).2 (nst 4 noE y.val st).1 (y.val : Int)) (by simp) (fun y => ?_) ⟨0, by omega⟩
 ·exact hh
 obtain ⟨m, hi⟩ := y
 by_cases e : m < 3
 ·refine .inl ⟨⟨m + 1, e⟩, by show 3 - (m + 1) < 3 - m; omega, ?_⟩
  have hl := Qz st h0 m e
  have e : m = 0 ∨ m = 1 ∨ m = 2 := by omega
  rcases e with rfl | rfl | rfl
  ·exact abq h (qfB g (fun j => rvl 4 wV 0 (nst 4 noE j st)) 0) (nst 4 noE 0 st) hl
  ·exact abA h (qfB g (fun j => rvl 4 wV 0 (nst 4 noE j st)) 1) (nst 4 noE 1 st) hl
  ·exact acK h (qfB g (fun j => rvl 4 wV 0 (nst 4 noE j st)) 2) (nst 4 noE 2 st) hl
 ·have e : m = 3 := by omega
  subst e
  exact .inr (Sm h _ _ _)
theorem SJ (h : QH) (C : List Value) (i : Nat) (g : GT) (sb : LU0) (e : Int) : pQ (qAr h C i g sb e 5).aa (.exit 2) (qBr h C i g sb e).aa :=
 Am [] 262 [2, 4, 7, 8, 9, 31, 32] [0, 23, 244, 254, 24] trivial
theorem R1 (h : QH) (C : List Value) (i : Nat) (g : GT) (st : Int × LU0) (h0 : st.1 = 0 -> 160 <= st.2.length) : Sound prog 0 false (.loop (pI f9 1)) (qAr h C i (qfA g (fun j => rvl 32 gfV 0 (nst 32 gfE j st)) 0) st.2 st.1 0).aa (.exit 2) (qBr h C i (qfA g (fun j => rvl 32 gfV 0 (nst 32 gfE j st)) 5) (nst 32 gfE 5 st).2 (nst 32 gfE 5 st).1).aa := by
 have hh := qr (P := prog) (fb := 0) (rd := false) (body := (pI f9 1)) (ex := .exit 2) (E := qBr h C i (qfA g (fun j => rvl 32 gfV 0 (nst 32 gfE j st)) 5) (nst 32 gfE 5 st).2 (nst 32 gfE 5 st).1) (m := fun y : { i : Nat // i <= 5 } => 5 - y.val) (fun y => qAr h C i (qfA g (fun j => rvl 32 gfV 0 (nst 32 gfE j st)) y.val) (nst 32 gfE y.val st).2 (nst 32 gfE y.val st).1 (y.val : Int)) (by simp) (fun y => ?_) ⟨0, by omega⟩
 ·exact hh
 obtain ⟨m, hi⟩ := y
 by_cases e : m < 5
 ·refine .inl ⟨⟨m + 1, e⟩, by show 5 - (m + 1) < 5 - m; omega, ?_⟩
  have hl := Mh st h0 m e
  have e : m = 0 ∨ m = 1 ∨ m = 2 ∨ m = 3 ∨ m = 4 := by omega
  rcases e with rfl | rfl | rfl | rfl | rfl
  ·exact abT h C i (qfA g (fun j => rvl 32 gfV 0 (nst 32 gfE j st)) 0) (nst 32 gfE 0 st) hl
  ·exact ab0 h C i (qfA g (fun j => rvl 32 gfV 0 (nst 32 gfE j st)) 1) (nst 32 gfE 1 st) hl
  ·exact abK h C i (qfA g (fun j => rvl 32 gfV 0 (nst 32 gfE j st)) 2) (nst 32 gfE 2 st) hl
  ·exact acp h C i (qfA g (fun j => rvl 32 gfV 0 (nst 32 gfE j st)) 3) (nst 32 gfE 3 st) hl
  ·exact abi h C i (qfA g (fun j => rvl 32 gfV 0 (nst 32 gfE j st)) 4) (nst 32 gfE 4 st) hl
 ·have e : m = 5 := by omega
  subst e
  exact .inr (SJ h C i _ _ _)
theorem Ro (h : QH) (C : List Value) (i : Nat) (g : GT) (sb : LU0) (e : Int) : qd (qCr h C i g sb e 3).aa (.exit 4) (qBr h C i g sb e).aa :=
 Am [] 554 [2, 4, 7, 8, 9, 31, 32] [0, 23, 244, 254, 24] trivial
theorem SS (h : QH) (C : List Value) (i : Nat) (g : GT) (st : Int × LU0) (h0 : st.1 = 0 -> 12 <= st.2.length) : Sound prog 0 false (.loop (pI f9 2)) (qCr h C i (qfB g (fun j => rvl 4 wV 0 (nst 4 noE j st)) 0) st.2 st.1 0).aa (.exit 4) (qBr h C i (qfB g (fun j => rvl 4 wV 0 (nst 4 noE j st)) 3) (nst 4 noE 3 st).2 (nst 4 noE 3 st).1).aa := by
 have hh := qr (P := prog) (fb := 0) (rd := false) (body := (pI f9 2)) (ex := .exit 4) (E := qBr h C i (qfB g (fun j => rvl 4 wV 0 (nst 4 noE j st)) 3) (nst 4 noE 3 st).2 (nst 4 noE 3 st).1) (m := fun y : { i : Nat // i <= 3 } => 3 - y.val) (fun y => qCr h C i (qfB g (fun j => rvl 4 wV 0 (nst 4 noE j st)) y.val) (nst 4 noE y.val st).2 (nst 4 noE y.val st).1 (y.val : Int)) (by simp) (fun y => ?_) ⟨0, by omega⟩
 ·exact hh
 obtain ⟨m, hi⟩ := y
 by_cases e : m < 3
 ·refine .inl ⟨⟨m + 1, e⟩, by show 3 - (m + 1) < 3 - m; omega, ?_⟩
  have hl := Qz st h0 m e
  have e : m = 0 ∨ m = 1 ∨ m = 2 := by omega
  rcases e with rfl | rfl | rfl
  ·exact abg h C i (qfB g (fun j => rvl 4 wV 0 (nst 4 noE j st)) 0) (nst 4 noE 0 st) hl
  ·exact acL h C i (qfB g (fun j => rvl 4 wV 0 (nst 4 noE j st)) 1) (nst 4 noE 1 st) hl
  ·exact abn h C i (qfB g (fun j => rvl 4 wV 0 (nst 4 noE j st)) 2) (nst 4 noE 2 st) hl
 ·have e : m = 3 := by omega
  subst e
  exact .inr (Ro h C i _ _ _)
end Go.Proofs.YtokjhbmmdmeafaaGreat
