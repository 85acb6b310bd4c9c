/- Pruned: Gm. -/
import Derived.Test.YtokjhbmmdmeafaaGreatQGg
import Derived.Test.YtokjhbmmdmeafaaGreatQGj
import Derived.Test.YtokjhbmmdmeafaaGreatQGl
set_option linter.unusedSimpArgs false
set_option linter.unusedVariables false
namespace Go.Proofs.YtokjhbmmdmeafaaGreat
open Go.Ev Go.RowKit
open Tryz
abbrev qg (v : Value) : Prop := true = true /\ true = true /\ [v] = [v]
abbrev rT (n : Nat) : Prop := true = true /\ n = n
abbrev uH (t : Nat) (l : List Ch) : Prop := t = t /\ flat l = flat l
abbrev CE (v : Value) : Prop := v = v
def My : List Ch := List.replicate 24 (.c (.int .u64 0)) ++ [.c (.bool false)]
def zvL : List Ch := (List.replicate 8 qS).flatten ++ My
def NZ : List Ch := [ci0 0, ci0 0] ++ zvL
def p2z : A2 := ((0, 0), (0, 0), false)
def gcI (v : VT) (sb : LU0) (e i : Int) : LState := { n := 53, sl := [(2, .p 0 0), (4, .p 23 0), (6, .p 36 0), (21, vi0 i)], hp := [(0, .own NZ 41), (23, .own [.c (.string (ofL sb)), ci0 e] 85), (36, .own v.ch 41)] }
def gcK (v : VT) (sb : LU0) (e i : Int) : LState := { n := 53, sl := [(2, .p 0 0), (4, .p 23 0), (6, .p 36 0), (30, vi0 i)], hp := [(0, .own NZ 41), (23, .own [.c (.string (ofL sb)), ci0 e] 85), (36, .own v.ch 41)] }
def gcE (v : VT) (sb : LU0) (e : Int) : LState := { n := 53, sl := [(2, .p 0 0), (4, .p 23 0), (6, .p 36 0)], hp := [(0, .own NZ 41), (23, .own [.c (.string (ofL sb)), ci0 e] 85), (36, .own v.ch 41)] }
theorem gcF (j k : Int) (hk : Value.int .i64 (IntKind.i64.wrap (j + 1)) = Value.int .i64 k) {sb : LU0} {e : Int} {a b : List Ch} (h : flat a = flat b) : ((rT 0) /\ (rT 0) /\ (rT 0) /\ (Value.int .i64 (IntKind.i64.wrap (j + 1))) = (Value.int .i64 k) /\ True) /\ ((uH 41 NZ) /\ (uH 85 [.c (.string (ofL sb)), ci0 e]) /\ (41 = 41 /\ flat a = flat b) /\ True) :=
 ⟨⟨rr0, rr0, rr0, hk, tt0⟩, rr0, rr0, ⟨rfl, h⟩, tt0⟩
theorem uM {os : Nat -> Ora} {c : Code} {I J : LState} {ex : Ex} {ob : Prop} (h : vZ prog (qa _) [rW, sJ] 3 os 0 false c 156 I J [] = some (ex, ob)) (hob : ob) : Sound prog 0 false c I.aa ex J.aa := rh (P := prog) (X := qa _) (env := [rW, sJ]) ⟨qM, qY, tt0⟩ h hob
abbrev r6 (a : AA) (e : Ex) (b : AA) : Prop := Sound prog 0 false (qc f7 0) a e b
theorem abg (v : VT) (sb : LU0) (e : Int) (hl : 48 <= sb.length) (h : (g1E (sb.take 48)) = 0) : r6 (gcI v sb 0 0).aa .normal (gcI { v with q0 := (g1V (sb.take 48)) } (sb.drop 48) (g1E (sb.take 48)) 1).aa :=
 uM (os := oL [(175, rO 5 0), (189, rO 5 0), (207, wF)]) (by kernel_rfl) (ai (gcF 0 1 rfl (sb := (sb.drop 48)) (e := (g1E (sb.take 48))) (a := ins v.ch 2 3 (pt1 (g1V (sb.take 48)))) (b := ({ v with q0 := (g1V (sb.take 48)) } : VT).ch) (by kernel_rfl)) (ai (eqz h) (ai (pZ hl) (ai (pZ hl) tt0))))
theorem abX (v : VT) (sb : LU0) (e : Int) (hl : 48 <= sb.length) (h : (g1E (sb.take 48)) ≠ 0) : r6 (gcI v sb 0 0).aa .normal (gcI { v with q0 := (g1V (sb.take 48)) } (sb.drop 48) (g1E (sb.take 48)) 1).aa :=
 uM (os := oL [(175, rO 5 0), (189, rO 5 0), (207, wT)]) (by kernel_rfl) (ai (gcF 0 1 rfl (sb := (sb.drop 48)) (e := (g1E (sb.take 48))) (a := ins v.ch 2 3 (qS)) (b := ({ v with q0 := (g1V (sb.take 48)) } : VT).ch) (by rw [ry h]; kernel_rfl)) (ai (nez h) (ai (pZ hl) (ai (pZ hl) tt0))))
theorem aaB (v : VT) (sb : LU0) (e : Int) (h : e ≠ 0) : r6 (gcI v sb e 0).aa .normal (gcI { v with q0 := p1z } sb e 1).aa :=
 uM (os := oL [(168, wT)]) (by kernel_rfl) (ai (gcF 0 1 rfl (sb := sb) (e := e) (a := ins v.ch 2 3 (qS)) (b := ({ v with q0 := p1z } : VT).ch) (by kernel_rfl)) (ai (nez h) tt0))
theorem ad9 (v : VT) (st : Int × LU0) (hl : st.1 = 0 -> 48 <= st.2.length) : r6 (gcI v st.2 st.1 0).aa .normal (gcI { v with q0 := rvl 48 g1V p1z st } (rst 48 g1E st).2 (rst 48 g1E st).1 1).aa := by
 obtain ⟨e, sb⟩ := st
 by_cases h : e = 0
 ·subst h
  by_cases h1 : g1E (sb.take 48) = 0
  ·exact abg v sb 0 (hl rfl) h1
  ·exact abX v sb 0 (hl rfl) h1
 ·rw [show rst 48 g1E (e, sb) = (e, sb) from if_neg h, show rvl 48 g1V p1z (e, sb) = p1z from if_neg h]
  exact aaB v sb e h
theorem abA (v : VT) (sb : LU0) (e : Int) (hl : 48 <= sb.length) (h : (g1E (sb.take 48)) = 0) : r6 (gcI v sb 0 1).aa .normal (gcI { v with q1 := (g1V (sb.take 48)) } (sb.drop 48) (g1E (sb.take 48)) 2).aa :=
 uM (os := oL [(175, rO 5 0), (189, rO 5 0), (207, wF)]) (by kernel_rfl) (ai (gcF 1 2 rfl (sb := (sb.drop 48)) (e := (g1E (sb.take 48))) (a := ins v.ch 5 3 (pt1 (g1V (sb.take 48)))) (b := ({ v with q1 := (g1V (sb.take 48)) } : VT).ch) (by kernel_rfl)) (ai (eqz h) (ai (pZ hl) (ai (pZ hl) tt0))))
theorem abE (v : VT) (sb : LU0) (e : Int) (hl : 48 <= sb.length) (h : (g1E (sb.take 48)) ≠ 0) : r6 (gcI v sb 0 1).aa .normal (gcI { v with q1 := (g1V (sb.take 48)) } (sb.drop 48) (g1E (sb.take 48)) 2).aa :=
 uM (os := oL [(175, rO 5 0), (189, rO 5 0), (207, wT)]) (by kernel_rfl) (ai (gcF 1 2 rfl (sb := (sb.drop 48)) (e := (g1E (sb.take 48))) (a := ins v.ch 5 3 (qS)) (b := ({ v with q1 := (g1V (sb.take 48)) } : VT).ch) (by rw [ry h]; kernel_rfl)) (ai (nez h) (ai (pZ hl) (ai (pZ hl) tt0))))
theorem abz (v : VT) (sb : LU0) (e : Int) (h : e ≠ 0) : r6 (gcI v sb e 1).aa .normal (gcI { v with q1 := p1z } sb e 2).aa :=
 uM (os := oL [(168, wT)]) (by kernel_rfl) (ai (gcF 1 2 rfl (sb := sb) (e := e) (a := ins v.ch 5 3 (qS)) (b := ({ v with q1 := p1z } : VT).ch) (by kernel_rfl)) (ai (nez h) tt0))
theorem adW (v : VT) (st : Int × LU0) (hl : st.1 = 0 -> 48 <= st.2.length) : r6 (gcI v st.2 st.1 1).aa .normal (gcI { v with q1 := rvl 48 g1V p1z st } (rst 48 g1E st).2 (rst 48 g1E st).1 2).aa := by
 obtain ⟨e, sb⟩ := st
 by_cases h : e = 0
 ·subst h
  by_cases h1 : g1E (sb.take 48) = 0
  ·exact abA v sb 0 (hl rfl) h1
  ·exact abE v sb 0 (hl rfl) h1
 ·rw [show rst 48 g1E (e, sb) = (e, sb) from if_neg h, show rvl 48 g1V p1z (e, sb) = p1z from if_neg h]
  exact abz v sb e h
theorem abL (v : VT) (sb : LU0) (e : Int) (hl : 48 <= sb.length) (h : (g1E (sb.take 48)) = 0) : r6 (gcI v sb 0 2).aa .normal (gcI { v with q2 := (g1V (sb.take 48)) } (sb.drop 48) (g1E (sb.take 48)) 3).aa :=
 uM (os := oL [(175, rO 5 0), (189, rO 5 0), (207, wF)]) (by kernel_rfl) (ai (gcF 2 3 rfl (sb := (sb.drop 48)) (e := (g1E (sb.take 48))) (a := ins v.ch 8 3 (pt1 (g1V (sb.take 48)))) (b := ({ v with q2 := (g1V (sb.take 48)) } : VT).ch) (by kernel_rfl)) (ai (eqz h) (ai (pZ hl) (ai (pZ hl) tt0))))
theorem ZK (v : VT) (sb : LU0) (e : Int) (hl : 48 <= sb.length) (h : (g1E (sb.take 48)) ≠ 0) : r6 (gcI v sb 0 2).aa .normal (gcI { v with q2 := (g1V (sb.take 48)) } (sb.drop 48) (g1E (sb.take 48)) 3).aa :=
 uM (os := oL [(175, rO 5 0), (189, rO 5 0), (207, wT)]) (by kernel_rfl) (ai (gcF 2 3 rfl (sb := (sb.drop 48)) (e := (g1E (sb.take 48))) (a := ins v.ch 8 3 (qS)) (b := ({ v with q2 := (g1V (sb.take 48)) } : VT).ch) (by rw [ry h]; kernel_rfl)) (ai (nez h) (ai (pZ hl) (ai (pZ hl) tt0))))
theorem acp (v : VT) (sb : LU0) (e : Int) (h : e ≠ 0) : r6 (gcI v sb e 2).aa .normal (gcI { v with q2 := p1z } sb e 3).aa :=
 uM (os := oL [(168, wT)]) (by kernel_rfl) (ai (gcF 2 3 rfl (sb := sb) (e := e) (a := ins v.ch 8 3 (qS)) (b := ({ v with q2 := p1z } : VT).ch) (by kernel_rfl)) (ai (nez h) tt0))
theorem adZ (v : VT) (st : Int × LU0) (hl : st.1 = 0 -> 48 <= st.2.length) : r6 (gcI v st.2 st.1 2).aa .normal (gcI { v with q2 := rvl 48 g1V p1z st } (rst 48 g1E st).2 (rst 48 g1E st).1 3).aa := by
 obtain ⟨e, sb⟩ := st
 by_cases h : e = 0
 ·subst h
  by_cases h1 : g1E (sb.take 48) = 0
  ·exact abL v sb 0 (hl rfl) h1
  ·exact ZK v sb 0 (hl rfl) h1
 ·rw [show rst 48 g1E (e, sb) = (e, sb) from if_neg h, show rvl 48 g1V p1z (e, sb) = p1z from if_neg h]
  exact acp v sb e h
theorem acx (v : VT) (sb : LU0) (e : Int) (hl : 48 <= sb.length) (h : (g1E (sb.take 48)) = 0) : r6 (gcI v sb 0 3).aa .normal (gcI { v with q3 := (g1V (sb.take 48)) } (sb.drop 48) (g1E (sb.take 48)) 4).aa :=
 uM (os := oL [(175, rO 5 0), (189, rO 5 0), (207, wF)]) (by kernel_rfl) (ai (gcF 3 4 rfl (sb := (sb.drop 48)) (e := (g1E (sb.take 48))) (a := ins v.ch 11 3 (pt1 (g1V (sb.take 48)))) (b := ({ v with q3 := (g1V (sb.take 48)) } : VT).ch) (by kernel_rfl)) (ai (eqz h) (ai (pZ hl) (ai (pZ hl) tt0))))
theorem abB (v : VT) (sb : LU0) (e : Int) (hl : 48 <= sb.length) (h : (g1E (sb.take 48)) ≠ 0) : r6 (gcI v sb 0 3).aa .normal (gcI { v with q3 := (g1V (sb.take 48)) } (sb.drop 48) (g1E (sb.take 48)) 4).aa :=
 uM (os := oL [(175, rO 5 0), (189, rO 5 0), (207, wT)]) (by kernel_rfl) (ai (gcF 3 4 rfl (sb := (sb.drop 48)) (e := (g1E (sb.take 48))) (a := ins v.ch 11 3 (qS)) (b := ({ v with q3 := (g1V (sb.take 48)) } : VT).ch) (by rw [ry h]; kernel_rfl)) (ai (nez h) (ai (pZ hl) (ai (pZ hl) tt0))))
theorem Zl (v : VT) (sb : LU0) (e : Int) (h : e ≠ 0) : r6 (gcI v sb e 3).aa .normal (gcI { v with q3 := p1z } sb e 4).aa :=
 uM (os := oL [(168, wT)]) (by kernel_rfl) (ai (gcF 3 4 rfl (sb := sb) (e := e) (a := ins v.ch 11 3 (qS)) (b := ({ v with q3 := p1z } : VT).ch) (by kernel_rfl)) (ai (nez h) tt0))
theorem adF (v : VT) (st : Int × LU0) (hl : st.1 = 0 -> 48 <= st.2.length) : r6 (gcI v st.2 st.1 3).aa .normal (gcI { v with q3 := rvl 48 g1V p1z st } (rst 48 g1E st).2 (rst 48 g1E st).1 4).aa := by
 obtain ⟨e, sb⟩ := st
 by_cases h : e = 0
 ·subst h
  by_cases h1 : g1E (sb.take 48) = 0
  ·exact acx v sb 0 (hl rfl) h1
  ·exact abB v sb 0 (hl rfl) h1
 ·rw [show rst 48 g1E (e, sb) = (e, sb) from if_neg h, show rvl 48 g1V p1z (e, sb) = p1z from if_neg h]
  exact Zl v sb e h
theorem YW (v : VT) (sb : LU0) (e : Int) (hl : 48 <= sb.length) (h : (g1E (sb.take 48)) = 0) : r6 (gcI v sb 0 4).aa .normal (gcI { v with q4 := (g1V (sb.take 48)) } (sb.drop 48) (g1E (sb.take 48)) 5).aa :=
 uM (os := oL [(175, rO 5 0), (189, rO 5 0), (207, wF)]) (by kernel_rfl) (ai (gcF 4 5 rfl (sb := (sb.drop 48)) (e := (g1E (sb.take 48))) (a := ins v.ch 14 3 (pt1 (g1V (sb.take 48)))) (b := ({ v with q4 := (g1V (sb.take 48)) } : VT).ch) (by kernel_rfl)) (ai (eqz h) (ai (pZ hl) (ai (pZ hl) tt0))))
theorem ZQ (v : VT) (sb : LU0) (e : Int) (hl : 48 <= sb.length) (h : (g1E (sb.take 48)) ≠ 0) : r6 (gcI v sb 0 4).aa .normal (gcI { v with q4 := (g1V (sb.take 48)) } (sb.drop 48) (g1E (sb.take 48)) 5).aa :=
 uM (os := oL [(175, rO 5 0), (189, rO 5 0), (207, wT)]) (by kernel_rfl) (ai (gcF 4 5 rfl (sb := (sb.drop 48)) (e := (g1E (sb.take 48))) (a := ins v.ch 14 3 (qS)) (b := ({ v with q4 := (g1V (sb.take 48)) } : VT).ch) (by rw [ry h]; kernel_rfl)) (ai (nez h) (ai (pZ hl) (ai (pZ hl) tt0))))
theorem aaA (v : VT) (sb : LU0) (e : Int) (h : e ≠ 0) : r6 (gcI v sb e 4).aa .normal (gcI { v with q4 := p1z } sb e 5).aa :=
 uM (os := oL [(168, wT)]) (by kernel_rfl) (ai (gcF 4 5 rfl (sb := sb) (e := e) (a := ins v.ch 14 3 (qS)) (b := ({ v with q4 := p1z } : VT).ch) (by kernel_rfl)) (ai (nez h) tt0))
theorem acT (v : VT) (st : Int × LU0) (hl : st.1 = 0 -> 48 <= st.2.length) : r6 (gcI v st.2 st.1 4).aa .normal (gcI { v with q4 := rvl 48 g1V p1z st } (rst 48 g1E st).2 (rst 48 g1E st).1 5).aa := by
 obtain ⟨e, sb⟩ := st
 by_cases h : e = 0
 ·subst h
  by_cases h1 : g1E (sb.take 48) = 0
  ·exact YW v sb 0 (hl rfl) h1
  ·exact ZQ v sb 0 (hl rfl) h1
 ·rw [show rst 48 g1E (e, sb) = (e, sb) from if_neg h, show rvl 48 g1V p1z (e, sb) = p1z from if_neg h]
  exact aaA v sb e h
def vvA (v : VT) (V : Nat -> A1) (i : Nat) : VT := { v with q0 := if 0 < i then V 0 else v.q0, q1 := if 1 < i then V 1 else v.q1, q2 := if 2 < i then V 2 else v.q2, q3 := if 3 < i then V 3 else v.q3, q4 := if 4 < i then V 4 else v.q4 }
theorem Gs {c : Code} {I L : LState} {ex : Ex} {b : Prop} (o : LO0) (k : Nat) (sk hk : List Nat) (hb : b) (h : uG prog (qa _) [] 0 (oL o) 0 false c k I sk hk [] = some (ex, L, b) := by kernel_rfl) : Sound prog 0 false c I.aa ex L.aa := p9 (P := prog) (X := qa _) (env := []) trivial h hb
theorem U4 (v : VT) (sb : LU0) (e : Int) : r6 (gcI v sb e 5).aa (.exit 0) (gcE v sb e).aa :=
 Gs [] 156 [2, 4, 6] [0, 23, 36] trivial
theorem UD (st : Int × LU0) (h0 : st.1 = 0 -> 240 <= st.2.length) (i : Nat) (hi : i < 5) : (nst 48 g1E i st).1 = 0 -> 48 <= (nst 48 g1E i st).2.length := by
 intro h
 obtain ⟨h1, h2, _⟩ := rq i st h
 rw [h2]
 show 48 <= (st.2.drop (48 * i)).length
 have := h0 h1
 rw [List.length_drop]
 omega
theorem SI (v : VT) (st : Int × LU0) (h0 : st.1 = 0 -> 240 <= st.2.length) : Sound prog 0 false (.loop (qc f7 0)) (gcI (vvA v (fun j => rvl 48 g1V p1z (nst 48 g1E j st)) 0) st.2 st.1 0).aa (.exit 0) (gcE (vvA v (fun j => rvl 48 g1V p1z (nst 48 g1E j st)) 5) (nst 48 g1E 5 st).2 (nst 48 g1E 5 st).1).aa := by
 have hh := qw (P := prog) (fb := 0) (rd := false) (body := (qc f7 0)) (ex := .exit 0) (E := gcE (vvA v (fun j => rvl 48 g1V p1z (nst 48 g1E j st)) 5) (nst 48 g1E 5 st).2 (nst 48 g1E 5 st).1) (m := fun y : { i : Nat // i <= 5 } => 5 - y.val) (fun y => gcI (vvA v (fun j => rvl 48 g1V p1z (nst 48 g1E j st)) y.val) (nst 48 g1E y.val st).2 (nst 48 g1E y.val st).1 (y.val : Int)) (by simp) (fun y => ?_) ⟨0, by omega⟩
 ·exact hh
 obtain ⟨i, hi⟩ := y
 by_cases e : i < 5
 ·refine .inl ⟨⟨i + 1, e⟩, by show 5 - (i + 1) < 5 - i; omega, ?_⟩
  have hl := UD st h0 i e
  have e : i = 0 ∨ i = 1 ∨ i = 2 ∨ i = 3 ∨ i = 4 := by omega
  rcases e with rfl | rfl | rfl | rfl | rfl
  ·exact ad9 (vvA v (fun j => rvl 48 g1V p1z (nst 48 g1E j st)) 0) (nst 48 g1E 0 st) hl
  ·exact adW (vvA v (fun j => rvl 48 g1V p1z (nst 48 g1E j st)) 1) (nst 48 g1E 1 st) hl
  ·exact adZ (vvA v (fun j => rvl 48 g1V p1z (nst 48 g1E j st)) 2) (nst 48 g1E 2 st) hl
  ·exact adF (vvA v (fun j => rvl 48 g1V p1z (nst 48 g1E j st)) 3) (nst 48 g1E 3 st) hl
  ·exact acT (vvA v (fun j => rvl 48 g1V p1z (nst 48 g1E j st)) 4) (nst 48 g1E 4 st) hl
 ·have e : i = 5 := by omega
  subst e
  exact .inr (U4 _ _ _)
abbrev tT (a : AA) (e : Ex) (b : AA) : Prop := Sound prog 0 false (qc f7 1) a e b
theorem ZR (v : VT) (sb : LU0) (e : Int) (hl : 48 <= sb.length) (h : (g1E (sb.take 48)) = 0) : tT (gcK v sb 0 0).aa .normal (gcK { v with s0 := (g1V (sb.take 48)) } (sb.drop 48) (g1E (sb.take 48)) 1).aa :=
 uM (os := oL [(175, rO 5 0), (189, rO 5 0), (207, wF)]) (by kernel_rfl) (ai (gcF 0 1 rfl (sb := (sb.drop 48)) (e := (g1E (sb.take 48))) (a := ins v.ch 17 3 (pt1 (g1V (sb.take 48)))) (b := ({ v with s0 := (g1V (sb.take 48)) } : VT).ch) (by kernel_rfl)) (ai (eqz h) (ai (pZ hl) (ai (pZ hl) tt0))))
theorem abK (v : VT) (sb : LU0) (e : Int) (hl : 48 <= sb.length) (h : (g1E (sb.take 48)) ≠ 0) : tT (gcK v sb 0 0).aa .normal (gcK { v with s0 := (g1V (sb.take 48)) } (sb.drop 48) (g1E (sb.take 48)) 1).aa :=
 uM (os := oL [(175, rO 5 0), (189, rO 5 0), (207, wT)]) (by kernel_rfl) (ai (gcF 0 1 rfl (sb := (sb.drop 48)) (e := (g1E (sb.take 48))) (a := ins v.ch 17 3 (qS)) (b := ({ v with s0 := (g1V (sb.take 48)) } : VT).ch) (by rw [ry h]; kernel_rfl)) (ai (nez h) (ai (pZ hl) (ai (pZ hl) tt0))))
theorem aaa (v : VT) (sb : LU0) (e : Int) (h : e ≠ 0) : tT (gcK v sb e 0).aa .normal (gcK { v with s0 := p1z } sb e 1).aa :=
 uM (os := oL [(168, wT)]) (by kernel_rfl) (ai (gcF 0 1 rfl (sb := sb) (e := e) (a := ins v.ch 17 3 (qS)) (b := ({ v with s0 := p1z } : VT).ch) (by kernel_rfl)) (ai (nez h) tt0))
theorem adC (v : VT) (st : Int × LU0) (hl : st.1 = 0 -> 48 <= st.2.length) : tT (gcK v st.2 st.1 0).aa .normal (gcK { v with s0 := rvl 48 g1V p1z st } (rst 48 g1E st).2 (rst 48 g1E st).1 1).aa := by
 obtain ⟨e, sb⟩ := st
 by_cases h : e = 0
 ·subst h
  by_cases h1 : g1E (sb.take 48) = 0
  ·exact ZR v sb 0 (hl rfl) h1
  ·exact abK v sb 0 (hl rfl) h1
 ·rw [show rst 48 g1E (e, sb) = (e, sb) from if_neg h, show rvl 48 g1V p1z (e, sb) = p1z from if_neg h]
  exact aaa v sb e h
theorem abw (v : VT) (sb : LU0) (e : Int) (hl : 48 <= sb.length) (h : (g1E (sb.take 48)) = 0) : tT (gcK v sb 0 1).aa .normal (gcK { v with s1 := (g1V (sb.take 48)) } (sb.drop 48) (g1E (sb.take 48)) 2).aa :=
 uM (os := oL [(175, rO 5 0), (189, rO 5 0), (207, wF)]) (by kernel_rfl) (ai (gcF 1 2 rfl (sb := (sb.drop 48)) (e := (g1E (sb.take 48))) (a := ins v.ch 20 3 (pt1 (g1V (sb.take 48)))) (b := ({ v with s1 := (g1V (sb.take 48)) } : VT).ch) (by kernel_rfl)) (ai (eqz h) (ai (pZ hl) (ai (pZ hl) tt0))))
theorem Y9 (v : VT) (sb : LU0) (e : Int) (hl : 48 <= sb.length) (h : (g1E (sb.take 48)) ≠ 0) : tT (gcK v sb 0 1).aa .normal (gcK { v with s1 := (g1V (sb.take 48)) } (sb.drop 48) (g1E (sb.take 48)) 2).aa :=
 uM (os := oL [(175, rO 5 0), (189, rO 5 0), (207, wT)]) (by kernel_rfl) (ai (gcF 1 2 rfl (sb := (sb.drop 48)) (e := (g1E (sb.take 48))) (a := ins v.ch 20 3 (qS)) (b := ({ v with s1 := (g1V (sb.take 48)) } : VT).ch) (by rw [ry h]; kernel_rfl)) (ai (nez h) (ai (pZ hl) (ai (pZ hl) tt0))))
theorem aar (v : VT) (sb : LU0) (e : Int) (h : e ≠ 0) : tT (gcK v sb e 1).aa .normal (gcK { v with s1 := p1z } sb e 2).aa :=
 uM (os := oL [(168, wT)]) (by kernel_rfl) (ai (gcF 1 2 rfl (sb := sb) (e := e) (a := ins v.ch 20 3 (qS)) (b := ({ v with s1 := p1z } : VT).ch) (by kernel_rfl)) (ai (nez h) tt0))
theorem acV (v : VT) (st : Int × LU0) (hl : st.1 = 0 -> 48 <= st.2.length) : tT (gcK v st.2 st.1 1).aa .normal (gcK { v with s1 := rvl 48 g1V p1z st } (rst 48 g1E st).2 (rst 48 g1E st).1 2).aa := by
 obtain ⟨e, sb⟩ := st
 by_cases h : e = 0
 ·subst h
  by_cases h1 : g1E (sb.take 48) = 0
  ·exact abw v sb 0 (hl rfl) h1
  ·exact Y9 v sb 0 (hl rfl) h1
 ·rw [show rst 48 g1E (e, sb) = (e, sb) from if_neg h, show rvl 48 g1V p1z (e, sb) = p1z from if_neg h]
  exact aar v sb e h
theorem abV (v : VT) (sb : LU0) (e : Int) (hl : 48 <= sb.length) (h : (g1E (sb.take 48)) = 0) : tT (gcK v sb 0 2).aa .normal (gcK { v with s2 := (g1V (sb.take 48)) } (sb.drop 48) (g1E (sb.take 48)) 3).aa :=
 uM (os := oL [(175, rO 5 0), (189, rO 5 0), (207, wF)]) (by kernel_rfl) (ai (gcF 2 3 rfl (sb := (sb.drop 48)) (e := (g1E (sb.take 48))) (a := ins v.ch 23 3 (pt1 (g1V (sb.take 48)))) (b := ({ v with s2 := (g1V (sb.take 48)) } : VT).ch) (by kernel_rfl)) (ai (eqz h) (ai (pZ hl) (ai (pZ hl) tt0))))
theorem acj (v : VT) (sb : LU0) (e : Int) (hl : 48 <= sb.length) (h : (g1E (sb.take 48)) ≠ 0) : tT (gcK v sb 0 2).aa .normal (gcK { v with s2 := (g1V (sb.take 48)) } (sb.drop 48) (g1E (sb.take 48)) 3).aa :=
 uM (os := oL [(175, rO 5 0), (189, rO 5 0), (207, wT)]) (by kernel_rfl) (ai (gcF 2 3 rfl (sb := (sb.drop 48)) (e := (g1E (sb.take 48))) (a := ins v.ch 23 3 (qS)) (b := ({ v with s2 := (g1V (sb.take 48)) } : VT).ch) (by rw [ry h]; kernel_rfl)) (ai (nez h) (ai (pZ hl) (ai (pZ hl) tt0))))
theorem abb (v : VT) (sb : LU0) (e : Int) (h : e ≠ 0) : tT (gcK v sb e 2).aa .normal (gcK { v with s2 := p1z } sb e 3).aa :=
 uM (os := oL [(168, wT)]) (by kernel_rfl) (ai (gcF 2 3 rfl (sb := sb) (e := e) (a := ins v.ch 23 3 (qS)) (b := ({ v with s2 := p1z } : VT).ch) (by kernel_rfl)) (ai (nez h) tt0))
theorem adL (v : VT) (st : Int × LU0) (hl : st.1 = 0 -> 48 <= st.2.length) : tT (gcK v st.2 st.1 2).aa .normal (gcK { v with s2 := rvl 48 g1V p1z st } (rst 48 g1E st).2 (rst 48 g1E st).1 3).aa := by
 obtain ⟨e, sb⟩ := st
 by_cases h : e = 0
 ·subst h
  by_cases h1 : g1E (sb.take 48) = 0
  ·exact abV v sb 0 (hl rfl) h1
  ·exact acj v sb 0 (hl rfl) h1
 ·rw [show rst 48 g1E (e, sb) = (e, sb) from if_neg h, show rvl 48 g1V p1z (e, sb) = p1z from if_neg h]
  exact abb v sb e h
def vvB (v : VT) (V : Nat -> A1) (i : Nat) : VT := { v with s0 := if 0 < i then V 0 else v.s0, s1 := if 1 < i then V 1 else v.s1, s2 := if 2 < i then V 2 else v.s2 }
theorem UI (v : VT) (sb : LU0) (e : Int) : tT (gcK v sb e 3).aa (.exit 2) (gcE v sb e).aa :=
 Gs [] 156 [2, 4, 6] [0, 23, 36] trivial
theorem Vm (st : Int × LU0) (h0 : st.1 = 0 -> 144 <= st.2.length) (i : Nat) (hi : i < 3) : (nst 48 g1E i st).1 = 0 -> 48 <= (nst 48 g1E i st).2.length := by
 intro h
 obtain ⟨h1, h2, _⟩ := rq i st h
 rw [h2]
 show 48 <= (st.2.drop (48 * i)).length
 have := h0 h1
 rw [List.length_drop]
 omega
theorem TC (v : VT) (st : Int × LU0) (h0 : st.1 = 0 -> 144 <= st.2.length) : Sound prog 0 false (.loop (qc f7 1)) (gcK (vvB v (fun j => rvl 48 g1V p1z (nst 48 g1E j st)) 0) st.2 st.1 0).aa (.exit 2) (gcE (vvB v (fun j => rvl 48 g1V p1z (nst 48 g1E j st)) 3) (nst 48 g1E 3 st).2 (nst 48 g1E 3 st).1).aa := by
 have hh := qw (P := prog) (fb := 0) (rd := false) (body := (qc f7 1)) (ex := .exit 2) (E := gcE (vvB v (fun j => rvl 48 g1V p1z (nst 48 g1E j st)) 3) (nst 48 g1E 3 st).2 (nst 48 g1E 3 st).1) (m := fun y : { i : Nat // i <= 3 } => 3 - y.val) (fun y => gcK (vvB v (fun j => rvl 48 g1V p1z (nst 48 g1E j st)) y.val) (nst 48 g1E y.val st).2 (nst 48 g1E y.val st).1 (y.val : Int)) (by simp) (fun y => ?_) ⟨0, by omega⟩
 ·exact hh
 obtain ⟨i, hi⟩ := y
 by_cases e : i < 3
 ·refine .inl ⟨⟨i + 1, e⟩, by show 3 - (i + 1) < 3 - i; omega, ?_⟩
  have hl := Vm st h0 i e
  have e : i = 0 ∨ i = 1 ∨ i = 2 := by omega
  rcases e with rfl | rfl | rfl
  ·exact adC (vvB v (fun j => rvl 48 g1V p1z (nst 48 g1E j st)) 0) (nst 48 g1E 0 st) hl
  ·exact acV (vvB v (fun j => rvl 48 g1V p1z (nst 48 g1E j st)) 1) (nst 48 g1E 1 st) hl
  ·exact adL (vvB v (fun j => rvl 48 g1V p1z (nst 48 g1E j st)) 2) (nst 48 g1E 2 st) hl
 ·have e : i = 3 := by omega
  subst e
  exact .inr (UI _ _ _)
end Go.Proofs.YtokjhbmmdmeafaaGreat
set_option linter.unusedSimpArgs false
set_option linter.unusedVariables false
namespace Go.Proofs.YtokjhbmmdmeafaaGreat
open Go.Ev Go.RowKit
open Tryz
def vt0 (a b : Int) : VT := ⟨a, b, p1z, p1z, p1z, p1z, p1z, p1z, p1z, p1z, p2z⟩
theorem acE (V : Nat -> A1) (a b : Int) : flat ([ci0 a, ci0 b] ++ zvL) = flat (vvA (vt0 a b) V 0).ch := by kernel_rfl
def Qn (sb : LU0) (a b : Int) : LState := { n := 53, sl := [(2, .p 0 0), (4, .p 23 0), (6, .p 36 0), (21, vi0 0)], hp := [(0, .own NZ 41), (23, .own [.c (.string (ofL sb)), ci0 0] 85), (36, .own ([ci0 a, ci0 b] ++ zvL) 41)] }
theorem Rc (sb : LU0) (a b : Int) : so (Qn sb a b).aa (gcI (vvA (vt0 a b) (fun j => rvl 48 g1V p1z (nst 48 g1E j (0, sb))) 0) sb 0 0) [] := by
 have e : so (Qn sb a b).aa (gcI (vvA (vt0 a b) (fun j => rvl 48 g1V p1z (nst 48 g1E j (0, sb))) 0) sb 0 0) [] = (((rT 0) /\ (rT 0) /\ (rT 0) /\ (CE (.int .i64 0)) /\ True) /\ ((uH 41 NZ) /\ (uH 85 [.c (.string (ofL sb)), ci0 0]) /\ (41 = 41 /\ flat ([ci0 a, ci0 b] ++ zvL) = flat (vvA (vt0 a b) (fun j => rvl 48 g1V p1z (nst 48 g1E j (0, sb))) 0).ch) /\ True)) := by kernel_rfl
 rw [e]
 exact ⟨⟨rr0, rr0, rr0, rfl, tt0⟩, rr0, rr0, ⟨rfl, acE _ _ _⟩, tt0⟩
theorem abT (st : Int × LU0) (h0 : st.1 = 0 -> 480 <= st.2.length) : (nst 48 g1E 5 st).1 = 0 -> 144 <= (nst 48 g1E 5 st).2.length := by
 intro h
 obtain ⟨h1, h2, _⟩ := rq 5 st h
 rw [h2]
 show 144 <= (st.2.drop (48 * 5)).length
 have := h0 h1
 rw [List.length_drop]
 omega
def ve (st : Int × LU0) : Int × LU0 := nst 48 g1E 3 (nst 48 g1E 5 st)
def Ty (a b : Int) (st : Int × LU0) : VT := vvB (vvA (vt0 a b) (fun j => rvl 48 g1V p1z (nst 48 g1E j st)) 5) (fun j => rvl 48 g1V p1z (nst 48 g1E j (nst 48 g1E 5 st))) 3
abbrev CG (l : LU0) := ((l.drop 4).drop 1).drop 1
abbrev Iy (l : LU0) := ((cn (((l.drop 4).drop 1).take 1) 0 : Nat) : Int)
abbrev HW (l : LU0) := ((cn ((l.drop 4).take 1) 0 : Nat) : Int)
abbrev Le (l : LU0) := vvA (vt0 (HW l) (Iy l)) (fun j => rvl 48 g1V p1z (nst 48 g1E j (0, (CG l)))) 5
abbrev BF (l : LU0) := nst 48 g1E 5 (0, (CG l))
theorem Yl (l : LU0) (hn : l.length = 486) (hm : l.take 4 = mgV) (h8 : ve (0, (((l.drop 4).drop 1).drop 1)) = (0, (ve (0, (((l.drop 4).drop 1).drop 1))).2)) (h : g2E ((ve (0, (((l.drop 4).drop 1).drop 1))).2.take 96) = 0) : Gives prog 7 [.t (.v (.string (ofL l)))] (.tp [.ag ({ (Ty ((cn ((l.drop 4).take 1) 0 : Nat) : Int) ((cn (((l.drop 4).drop 1).take 1) 0 : Nat) : Int) (0, (((l.drop 4).drop 1).drop 1))) with b := g2V ((ve (0, (((l.drop 4).drop 1).drop 1))).2.take 96) } : VT).ch, vi0 0]) := by
 have h0 : ((0, (((l.drop 4).drop 1).drop 1)) : Int × LU0).1 = 0 -> 480 <= ((0, (((l.drop 4).drop 1).drop 1)) : Int × LU0).2.length := fun _ => by show 480 <= (((l.drop 4).drop 1).drop 1).length; simp only [List.length_drop]; omega
 have hR : 96 <= (ve (0, (((l.drop 4).drop 1).drop 1))).2.length := by
  obtain ⟨h5, h6, _⟩ := rq 3 (nst 48 g1E 5 (0, (((l.drop 4).drop 1).drop 1))) (by rw [show nst 48 g1E 3 (nst 48 g1E 5 (0, (((l.drop 4).drop 1).drop 1))) = ve (0, (((l.drop 4).drop 1).drop 1)) from rfl, h8])
  obtain ⟨_, h7, _⟩ := rq 5 (0, (((l.drop 4).drop 1).drop 1)) h5
  rw [show ve (0, (((l.drop 4).drop 1).drop 1)) = nst 48 g1E 3 (nst 48 g1E 5 (0, (((l.drop 4).drop 1).drop 1))) from rfl, h6, h7]
  show 96 <= (((((l.drop 4).drop 1).drop 1).drop (48 * 5)).drop (48 * 3)).length
  simp only [List.length_drop]
  omega
 exact p6 (P := prog) (X := qa _) (env := [rW, sJ]) ⟨qM, qY, tt0⟩ func7 3 (oL [(6, { ch := 1, hi := fun _ => 486 }), (14, rO 5 0), (16, wF), (21, rO 5 0), (32, { ch := 1, hi := fun _ => 482 }), (53, rO 5 0), (58, rO 1 (cn ((l.drop 4).take 1) 0)), (59, { ch := 1, hi := fun _ => cn ((l.drop 4).take 1) 0 }), (73, rO 5 0), (112, rO 5 0), (117, rO 1 (cn (((l.drop 4).drop 1).take 1) 0)), (118, { ch := 1, hi := fun _ => cn (((l.drop 4).drop 1).take 1) 0 }), (132, rO 5 0), (156, lpO { I := Qn (CG l) (HW l) (Iy l), ex := .exit 0, E := gcE (Le l) (BF l).2 (BF l).1, fr := 157 }), (158, lpO { I := gcK (Le l) (BF l).2 (BF l).1 0, ex := .exit 2, E := gcE (Ty (HW l) (Iy l) (0, (CG l))) (ve (0, (CG l))).2 0, fr := 159 }), (174, rO 5 0), (188, rO 5 0), (206, wF), (215, wF)]) (by kernel_rfl) ⟨_, rfl⟩ (ai (show (g2E ((ve (0, (((l.drop 4).drop 1).drop 1))).2.take 96) != 0) = false from by rw [h]; rfl) (ai (show (g2E ((ve (0, (((l.drop 4).drop 1).drop 1))).2.take 96) != 0) = false from by rw [h]; rfl) (ai (show (0 : Int) <= 96 /\ (96 : Int) <= (ofL (ve (0, (((l.drop 4).drop 1).drop 1))).2).size from ⟨by decide, by show (96 : Int) <= ((ve (0, (((l.drop 4).drop 1).drop 1))).2.length : Nat); omega⟩) (ai (show (0 : Int) <= 96 /\ (96 : Int) <= (ofL (ve (0, (((l.drop 4).drop 1).drop 1))).2).size from ⟨by decide, by show (96 : Int) <= ((ve (0, (((l.drop 4).drop 1).drop 1))).2.length : Nat); omega⟩) (ai (show some (gcK (Le l) (BF l).2 (BF l).1 0) = some (gcK (Le l) (BF l).2 (BF l).1 0) from rfl) (ai ((by have hh := TC (vvA (vt0 ((cn ((l.drop 4).take 1) 0 : Nat) : Int) ((cn (((l.drop 4).drop 1).take 1) 0 : Nat) : Int)) (fun j => rvl 48 g1V p1z (nst 48 g1E j (0, (((l.drop 4).drop 1).drop 1)))) 5) (nst 48 g1E 5 (0, (((l.drop 4).drop 1).drop 1))) (abT (0, (((l.drop 4).drop 1).drop 1)) h0); rw [show nst 48 g1E 3 (nst 48 g1E 5 (0, (((l.drop 4).drop 1).drop 1))) = ve (0, (((l.drop 4).drop 1).drop 1)) from rfl, h8] at hh; exact hh)) (ai (show some (Qn (CG l) (HW l) (Iy l)) = some (Qn (CG l) (HW l) (Iy l)) from rfl) (ai (((SI (vt0 ((cn ((l.drop 4).take 1) 0 : Nat) : Int) ((cn (((l.drop 4).drop 1).take 1) 0 : Nat) : Int)) (0, (((l.drop 4).drop 1).drop 1)) (fun h => by have := h0 h; omega)).pre [] (by kernel_rfl) (Rc (((l.drop 4).drop 1).drop 1) ((cn ((l.drop 4).take 1) 0 : Nat) : Int) ((cn (((l.drop 4).drop 1).take 1) 0 : Nat) : Int)))) (ai (show (0 : Int) <= 1 /\ (1 : Int) <= (ofL ((l.drop 4).drop 1)).size from ⟨by decide, by show (1 : Int) <= (((l.drop 4).drop 1).length : Nat); rw [List.length_drop, List.length_drop]; omega⟩) (ai (show IntKind.i64.wrap ((cn (((l.drop 4).drop 1).take 1) 0 : Nat) : Int) = ((cn (((l.drop 4).drop 1).take 1) 0 : Nat) : Int) from rH (by have := qU (((l.drop 4).drop 1).take 1) 0; omega)) (ai (show (0 : Int) <= 0 /\ (0 : Int) < (ofL (((l.drop 4).drop 1).take 1)).size /\ ((ofL (((l.drop 4).drop 1).take 1))[(0 : Int).toNat]?.getD 0).toNat = cn (((l.drop 4).drop 1).take 1) 0 from QI (((l.drop 4).drop 1).take 1) 0 (by rw [List.length_take]; simp only [List.length_drop]; omega)) (ai (show (0 : Int) <= 1 /\ (1 : Int) <= (ofL ((l.drop 4).drop 1)).size from ⟨by decide, by show (1 : Int) <= (((l.drop 4).drop 1).length : Nat); rw [List.length_drop, List.length_drop]; omega⟩) (ai (show (0 : Int) <= 1 /\ (1 : Int) <= (ofL (l.drop 4)).size from ⟨by decide, by show (1 : Int) <= ((l.drop 4).length : Nat); rw [List.length_drop]; omega⟩) (ai (show IntKind.i64.wrap ((cn ((l.drop 4).take 1) 0 : Nat) : Int) = ((cn ((l.drop 4).take 1) 0 : Nat) : Int) from rH (by have := qU ((l.drop 4).take 1) 0; omega)) (ai (show (0 : Int) <= 0 /\ (0 : Int) < (ofL ((l.drop 4).take 1)).size /\ ((ofL ((l.drop 4).take 1))[(0 : Int).toNat]?.getD 0).toNat = cn ((l.drop 4).take 1) 0 from QI ((l.drop 4).take 1) 0 (by rw [List.length_take]; simp only [List.length_drop]; omega)) (ai (show (0 : Int) <= 1 /\ (1 : Int) <= (ofL (l.drop 4)).size from ⟨by decide, by show (1 : Int) <= ((l.drop 4).length : Nat); rw [List.length_drop]; omega⟩) (ai (show (((ofL (l.drop 4)).size : Nat) : Int) = ((482 : Nat) : Int) from by show (((l.drop 4).length : Nat) : Int) = _; rw [List.length_drop, hn]) (ai (show (0 : Int) <= 4 /\ (4 : Int) <= (ofL l).size from ⟨by decide, by show (4 : Int) <= ((l).length : Nat); omega⟩) (ai (show (!((ofL (l.take 4)).toList == (ofL mgV).toList)) = false from by rw [hm]; simp) (ai (show (0 : Int) <= 4 /\ (4 : Int) <= (ofL l).size from ⟨by decide, by show (4 : Int) <= ((l).length : Nat); omega⟩) (ai (show (((ofL l).size : Nat) : Int) = ((486 : Nat) : Int) from by show ((l.length : Nat) : Int) = _; rw [hn]) tt0)))))))))))))))))))))
def UQ (l : LU0) : Int := if l.take 4 = mgV then (if l.length = 486 then (rst 96 g2E (ve (0, (((l.drop 4).drop 1).drop 1)))).1 else 3) else 80
def gcR (l : LU0) : VT := { Ty ((cn ((l.drop 4).take 1) 0 : Nat) : Int) ((cn (((l.drop 4).drop 1).take 1) 0 : Nat) : Int) (0, (((l.drop 4).drop 1).drop 1)) with b := g2V ((ve (0, (((l.drop 4).drop 1).drop 1))).2.take 96) }
theorem Yd (l : LU0) (h : UQ l = 0) : Gives prog 7 [.t (.v (.string (ofL l)))] (.tp [.ag (gcR l).ch, vi0 0]) := by
 unfold UQ at h
 split at h
 ·rename_i hm
  split at h
  ·rename_i hn
   by_cases h8 : (ve (0, (((l.drop 4).drop 1).drop 1))).1 = 0
   ·have e8 : ve (0, (((l.drop 4).drop 1).drop 1)) = (0, (ve (0, (((l.drop 4).drop 1).drop 1))).2) := Prod.ext h8 rfl
    rw [e8, Ci] at h
    exact Yl l hn hm e8 h
   ·rw [KR h8] at h; exact absurd h h8
  ·exact absurd h (by decide)
 ·exact absurd h (by decide)
end Go.Proofs.YtokjhbmmdmeafaaGreat
set_option linter.unusedSimpArgs false
set_option linter.unusedVariables false
namespace Go.Proofs.YtokjhbmmdmeafaaGreat
open Go.Ev Go.RowKit
open Tryz
def zk : List Ch := [.c (.slice none 0 0)] ++ My
theorem ado (C : List Value) (a : A1) : flat [.l C, .n 6 a.1, .n 6 a.2.1, .c (.bool a.2.2)] = flat [.l (C ++ ptC a)] := by simp [flat, Ch.cells, ptC, ptP]
theorem aaN (a : A1) : flat [.n 6 a.1, .n 6 a.2.1, .c (.bool a.2.2)] = flat [.l (ptC a)] := by simp [flat, Ch.cells, ptC, ptP]
theorem PP (a b : List Ch) : flat (a ++ b) = flat a ++ flat b := by
 induction a with
 | nil => rfl
 | cons c l ih => simp only [List.cons_append, flat, ih, List.append_assoc]
theorem HD : flat qS = ptC p1z := by kernel_rfl
theorem Zn (C : List Value) : flat ([.l C] ++ qS) = flat [.l (C ++ ptC p1z)] := by
 rw [PP, HD]; simp [flat, Ch.cells]
theorem VV : flat qS = flat [.l (ptC p1z)] := by rw [HD, x7]
def gkZ (N : Nat) (sb : LU0) (e : Int) : LState := { n := 42, sl := [(2, .p 0 0), (4, .p 23 0), (6, .p 106 0), (17, vi0 (N : Int)), (18, vi0 0)], hp := [(0, .own zk 54), (23, .own [.c (.string (ofL sb)), ci0 e] 85), (106, .own zk 54)] }
def gkI (N : Nat) (C : List Value) (i : Nat) (sb : LU0) (e : Int) : LState := { n := 42, sl := [(2, .p 0 0), (4, .p 23 0), (6, .p 106 0), (17, vi0 (N : Int)), (18, vi0 (i : Int))], hp := [(0, .own zk 54), (23, .own [.c (.string (ofL sb)), ci0 e] 85), (106, .own ([.sx 24 i] ++ My) 54), (24, .gr [.l C] 26 13)] }
def wv (N : Nat) (P : List Ch) (z : Int) (m : Nat) (sb : LU0) (e : Int) : LState := { n := 42, sl := [(2, .p 0 0), (4, .p 23 0), (6, .p 106 0), (17, vi0 (N : Int)), (18, vi0 z)], hp := [(0, .own zk 54), (23, .own [.c (.string (ofL sb)), ci0 e] 85), (106, .own ([.sx 160 m] ++ My) 54), (160, .gr P 26 13)] }
def DC (N : Nat) (P : List Ch) (z : Int) (m : Nat) (sb : LU0) (e : Int) : LState := { n := 42, sl := [(2, .p 0 0), (4, .p 23 0), (6, .p 106 0), (17, vi0 (N : Int)), (18, vi0 z)], hp := [(0, .own zk 54), (23, .own [.c (.string (ofL sb)), ci0 e] 85), (106, .own ([.sx 121 m] ++ My) 54), (121, .gr P 26 13)] }
def Z7 (sb : LU0) (e : Int) : LState := { n := 42, sl := [(2, .p 0 0), (4, .p 23 0), (6, .p 106 0)], hp := [(0, .own zk 54), (23, .own [.c (.string (ofL sb)), ci0 e] 85), (106, .own zk 54)] }
def gkE (C : List Value) (i : Nat) (sb : LU0) (e : Int) : LState := { n := 42, sl := [(2, .p 0 0), (4, .p 23 0), (6, .p 106 0)], hp := [(0, .own zk 54), (23, .own [.c (.string (ofL sb)), ci0 e] 85), (106, .own ([.sx 24 i] ++ My) 54), (24, .gr [.l C] 26 13)] }
abbrev A0 (a : AA) (e : Ex) (b : AA) : Prop := Sound prog 0 false (OG f10 0) a e b
theorem RY (N : Nat) (sb : LU0) (hl : 48 <= sb.length) (h : (g1E (sb.take 48)) = 0) : A0 (gkZ N sb 0).aa .normal (wv N (pt1 (g1V (sb.take 48))) 0 1 (sb.drop 48) (g1E (sb.take 48))).aa := by
 have hL : ((((g1E (sb.take 48)) != 0) = false) /\ (((0 : Int) <= 48 /\ (48 : Int) <= (ofL sb).size) /\ (((0 : Int) <= 48 /\ (48 : Int) <= (ofL sb).size) /\ (True)))) /\ (some (wv N (pt1 (g1V (sb.take 48))) 0 1 (sb.drop 48) (g1E (sb.take 48))) = some (wv N (pt1 (g1V (sb.take 48))) 0 1 (sb.drop 48) (g1E (sb.take 48)))) := ⟨⟨by rw [h]; rfl, ⟨⟨by decide, by show (48 : Int) <= (sb.length : Nat); omega⟩, ⟨⟨by decide, by show (48 : Int) <= (sb.length : Nat); omega⟩, tt0⟩⟩⟩, rfl⟩
 exact rY (P := prog) (X := qa _) (env := [rW, sJ]) ⟨qM, qY, tt0⟩ (tj (P := prog) (X := qa _) (env := [rW, sJ]) (os := oL [(124, rO 5 0), (138, rO 5 0), (156, wF)]) ⟨qM, qY, tt0⟩ 3) (os := oL []) (fb := 0) (k := 110) (I := gkZ N sb 0) (E := wv N (pt1 (g1V (sb.take 48))) 0 1 (sb.drop 48) (g1E (sb.take 48))) (by kernel_rfl) (ai (ai (ai (ai (ai (ai (ai (ai hL tt0) tt0) tt0) tt0) tt0) tt0) (ai (ai (ai (ai (ai (ai (ai hL tt0) tt0) tt0) tt0) tt0) (ai (ai (ai (ai (ai (ai hL tt0) tt0) tt0) tt0) (ai (ai (ai (ai (ai hL tt0) tt0) tt0) tt0) tt0)) tt0)) tt0)) (ai (ai (ai (ai (ai (ai (ai (ai hL tt0) tt0) tt0) tt0) tt0) (ai (ai (ai (ai (ai (ai hL tt0) tt0) tt0) tt0) (ai (ai (ai (ai (ai hL tt0) tt0) tt0) tt0) tt0)) tt0)) (ai (ai (ai (ai (ai (ai (ai hL tt0) tt0) tt0) tt0) (ai (ai (ai (ai (ai hL tt0) tt0) tt0) tt0) tt0)) (ai (ai (ai (ai (ai (ai hL tt0) tt0) tt0) tt0) tt0) tt0)) tt0)) tt0))
abbrev sN := qg (.int .u64 0)
abbrev VW := 54 = 54 /\ (rT 1) /\ sN /\ sN /\ sN /\ sN /\ sN /\ sN /\ sN /\ sN /\ sN /\ sN /\ sN /\ sN /\ sN /\ sN /\ sN /\ sN /\ sN /\ sN /\ sN /\ sN /\ sN /\ sN /\ sN /\ sN /\ (true = true /\ true = true /\ [Value.bool false] = [Value.bool false]) /\ True
def Qz {N : Nat} (hi : 0 < N) := PLift.up (ai (show decide ((0 : Int) < ((N : Nat) : Int)) = true from decide_eq_true (by omega)) tt0)
theorem AW {c : Code} {I J : LState} {ex : Ex} {b : Prop} (o : LO0) (k : Nat) (τ : List (Nat × Nat)) (hb : b) (h : vZ prog (qa _) [] 3 (oL o) 0 false c k I J τ = some (ex, b) := by kernel_rfl) : Sound prog 0 false c I.aa ex J.aa := rh (P := prog) (X := qa _) (env := []) trivial h hb
abbrev v7 (a : AA) (e : Ex) (b : AA) : Prop := Sound prog 0 false (qc f10 0) a e b
theorem adG (N : Nat) (hi : 0 < N) (sb : LU0) (hl : 48 <= sb.length) (h : (g1E (sb.take 48)) = 0) : v7 (gkZ N sb 0).aa .normal (gkI N (ptC (g1V (sb.take 48))) 1 (sb.drop 48) (g1E (sb.take 48))).aa :=
 AW [(109, wT), (110, lpO { kd := 5, I := gkZ N sb 0, ex := .normal, E := wv N (pt1 (g1V (sb.take 48))) 0 1 (sb.drop 48) (g1E (sb.take 48)), fr := 161 })] 109 [(24, 160)] (ai (show ((rT 0) /\ (rT 0) /\ (rT 0) /\ (CE (.int .i64 (N : Int))) /\ (Value.int .i64 (IntKind.i64.wrap (0 + 1))) = (Value.int .i64 ((1 : Nat) : Int)) /\ True) /\ ((uH 54 zk) /\ (uH 85 [.c (.string (ofL (sb.drop 48))), ci0 (g1E (sb.take 48))]) /\ VW /\ ((26 = 26 /\ 13 = 13) /\ flat (pt1 (g1V (sb.take 48))) = flat [.l (ptC (g1V (sb.take 48)))]) /\ True) from ⟨⟨rr0, rr0, rr0, rfl, rfl, tt0⟩, rr0, rr0, ⟨rfl, ⟨rr0, r30, r30, r30, r30, r30, r30, r30, r30, r30, r30, r30, r30, r30, r30, r30, r30, r30, r30, r30, r30, r30, r30, r30, r30, r30, tt0⟩⟩, ⟨rr0, aaN _⟩, tt0⟩) (ai (show some (gkZ N sb 0) = some (gkZ N sb 0) from rfl) (ai (RY N sb hl h)
   (Qz hi).down)))
theorem O5 (N : Nat) (sb : LU0) (hl : 48 <= sb.length) (h : (g1E (sb.take 48)) ≠ 0) : A0 (gkZ N sb 0).aa .normal (wv N (qS) 0 1 (sb.drop 48) (g1E (sb.take 48))).aa := by
 have hL : ((((g1E (sb.take 48)) != 0) = true) /\ (((0 : Int) <= 48 /\ (48 : Int) <= (ofL sb).size) /\ (((0 : Int) <= 48 /\ (48 : Int) <= (ofL sb).size) /\ (True)))) /\ (some (wv N (qS) 0 1 (sb.drop 48) (g1E (sb.take 48))) = some (wv N (qS) 0 1 (sb.drop 48) (g1E (sb.take 48)))) := ⟨⟨by simpa using h, ⟨⟨by decide, by show (48 : Int) <= (sb.length : Nat); omega⟩, ⟨⟨by decide, by show (48 : Int) <= (sb.length : Nat); omega⟩, tt0⟩⟩⟩, rfl⟩
 exact rY (P := prog) (X := qa _) (env := [rW, sJ]) ⟨qM, qY, tt0⟩ (tj (P := prog) (X := qa _) (env := [rW, sJ]) (os := oL [(124, rO 5 0), (138, rO 5 0), (156, wT)]) ⟨qM, qY, tt0⟩ 3) (os := oL []) (fb := 0) (k := 110) (I := gkZ N sb 0) (E := wv N (qS) 0 1 (sb.drop 48) (g1E (sb.take 48))) (by kernel_rfl) (ai (ai (ai (ai (ai (ai (ai (ai hL tt0) tt0) tt0) tt0) tt0) tt0) (ai (ai (ai (ai (ai (ai (ai hL tt0) tt0) tt0) tt0) tt0) (ai (ai (ai (ai (ai (ai hL tt0) tt0) tt0) tt0) (ai (ai (ai (ai (ai hL tt0) tt0) tt0) tt0) tt0)) tt0)) tt0)) (ai (ai (ai (ai (ai (ai (ai (ai hL tt0) tt0) tt0) tt0) tt0) (ai (ai (ai (ai (ai (ai hL tt0) tt0) tt0) tt0) (ai (ai (ai (ai (ai hL tt0) tt0) tt0) tt0) tt0)) tt0)) (ai (ai (ai (ai (ai (ai (ai hL tt0) tt0) tt0) tt0) (ai (ai (ai (ai (ai hL tt0) tt0) tt0) tt0) tt0)) (ai (ai (ai (ai (ai (ai hL tt0) tt0) tt0) tt0) tt0) tt0)) tt0)) tt0))
theorem adf (N : Nat) (hi : 0 < N) (sb : LU0) (hl : 48 <= sb.length) (h : (g1E (sb.take 48)) ≠ 0) : v7 (gkZ N sb 0).aa .normal (gkI N (ptC (g1V (sb.take 48))) 1 (sb.drop 48) (g1E (sb.take 48))).aa :=
 AW [(109, wT), (110, lpO { kd := 5, I := gkZ N sb 0, ex := .normal, E := wv N (qS) 0 1 (sb.drop 48) (g1E (sb.take 48)), fr := 161 })] 109 [(24, 160)] (ai (show ((rT 0) /\ (rT 0) /\ (rT 0) /\ (CE (.int .i64 (N : Int))) /\ (Value.int .i64 (IntKind.i64.wrap (0 + 1))) = (Value.int .i64 ((1 : Nat) : Int)) /\ True) /\ ((uH 54 zk) /\ (uH 85 [.c (.string (ofL (sb.drop 48))), ci0 (g1E (sb.take 48))]) /\ (54 = 54 /\ (rT 1) /\ (qg (.int .u64 0)) /\ (qg (.int .u64 0)) /\ (qg (.int .u64 0)) /\ (qg (.int .u64 0)) /\ (qg (.int .u64 0)) /\ (qg (.int .u64 0)) /\ (qg (.int .u64 0)) /\ (qg (.int .u64 0)) /\ (qg (.int .u64 0)) /\ (qg (.int .u64 0)) /\ (qg (.int .u64 0)) /\ (qg (.int .u64 0)) /\ (qg (.int .u64 0)) /\ (qg (.int .u64 0)) /\ (qg (.int .u64 0)) /\ (qg (.int .u64 0)) /\ (qg (.int .u64 0)) /\ (qg (.int .u64 0)) /\ (qg (.int .u64 0)) /\ (qg (.int .u64 0)) /\ (qg (.int .u64 0)) /\ (qg (.int .u64 0)) /\ (qg (.int .u64 0)) /\ (qg (.int .u64 0)) /\ (true = true /\ true = true /\ [Value.bool false] = [Value.bool false]) /\ True) /\ ((26 = 26 /\ 13 = 13) /\ flat (qS) = flat [.l (ptC (g1V (sb.take 48)))]) /\ True) from ⟨⟨rr0, rr0, rr0, rfl, rfl, tt0⟩, rr0, rr0, ⟨rfl, ⟨rr0, r30, r30, r30, r30, r30, r30, r30, r30, r30, r30, r30, r30, r30, r30, r30, r30, r30, r30, r30, r30, r30, r30, r30, r30, r30, tt0⟩⟩, ⟨rr0, by rw [ry h]; exact VV⟩, tt0⟩) (ai (show some (gkZ N sb 0) = some (gkZ N sb 0) from rfl) (ai (O5 N sb hl h)
   (Qz hi).down)))
theorem P8 (N : Nat) (sb : LU0) (e : Int) (h : e ≠ 0) : A0 (gkZ N sb e).aa .normal (DC N (qS) 0 1 sb e).aa := by
 have hL : (((e != 0) = true) /\ (True)) /\ (some (DC N (qS) 0 1 sb e) = some (DC N (qS) 0 1 sb e)) := ⟨⟨by simpa using h, tt0⟩, rfl⟩
 exact rY (P := prog) (X := qa _) (env := [rW, sJ]) ⟨qM, qY, tt0⟩ (tj (P := prog) (X := qa _) (env := [rW, sJ]) (os := oL [(117, wT)]) ⟨qM, qY, tt0⟩ 3) (os := oL []) (fb := 0) (k := 110) (I := gkZ N sb e) (E := DC N (qS) 0 1 sb e) (by kernel_rfl) (ai (ai (ai (ai (ai (ai (ai (ai hL tt0) tt0) tt0) tt0) tt0) tt0) (ai (ai (ai (ai (ai (ai (ai hL tt0) tt0) tt0) tt0) tt0) (ai (ai (ai (ai (ai (ai hL tt0) tt0) tt0) tt0) (ai (ai (ai (ai (ai hL tt0) tt0) tt0) tt0) tt0)) tt0)) tt0)) (ai (ai (ai (ai (ai (ai (ai (ai hL tt0) tt0) tt0) tt0) tt0) (ai (ai (ai (ai (ai (ai hL tt0) tt0) tt0) tt0) (ai (ai (ai (ai (ai hL tt0) tt0) tt0) tt0) tt0)) tt0)) (ai (ai (ai (ai (ai (ai (ai hL tt0) tt0) tt0) tt0) (ai (ai (ai (ai (ai hL tt0) tt0) tt0) tt0) tt0)) (ai (ai (ai (ai (ai (ai hL tt0) tt0) tt0) tt0) tt0) tt0)) tt0)) tt0))
theorem adT (N : Nat) (hi : 0 < N) (sb : LU0) (e : Int) (h : e ≠ 0) : v7 (gkZ N sb e).aa .normal (gkI N (ptC p1z) 1 sb e).aa :=
 AW [(109, wT), (110, lpO { kd := 5, I := gkZ N sb e, ex := .normal, E := DC N (qS) 0 1 sb e, fr := 161 })] 109 [(24, 121)] (ai (show ((rT 0) /\ (rT 0) /\ (rT 0) /\ (CE (.int .i64 (N : Int))) /\ (Value.int .i64 (IntKind.i64.wrap (0 + 1))) = (Value.int .i64 ((1 : Nat) : Int)) /\ True) /\ ((uH 54 zk) /\ (uH 85 [.c (.string (ofL sb)), ci0 e]) /\ VW /\ ((26 = 26 /\ 13 = 13) /\ flat (qS) = flat [.l (ptC p1z)]) /\ True) from ⟨⟨rr0, rr0, rr0, rfl, rfl, tt0⟩, rr0, rr0, ⟨rfl, ⟨rr0, r30, r30, r30, r30, r30, r30, r30, r30, r30, r30, r30, r30, r30, r30, r30, r30, r30, r30, r30, r30, r30, r30, r30, r30, r30, tt0⟩⟩, ⟨rr0, VV⟩, tt0⟩) (ai (show some (gkZ N sb e) = some (gkZ N sb e) from rfl) (ai (P8 N sb e h)
   (Qz hi).down)))
def OM : LO0 := [(115, { ch := 0, hi := fun _ => 0, ex := 1 })]
theorem OX (N i : Nat) (sb : LU0) (hi : i < N) (hN : N <= 100000) (C : List Value) (hC : C.length = i * 13) (hl : 48 <= sb.length) (h : (g1E (sb.take 48)) = 0) : A0 (gkI N C i sb 0).aa .normal (wv N ([.l C] ++ pt1 (g1V (sb.take 48))) (i : Int) (i + 1) (sb.drop 48) (g1E (sb.take 48))).aa := by
 have hL : ((qq [.l C] = i * 13 /\ i + 1 <= 9223372036854775807 /\ (i + 1) * 104 <= 140737488355328 /\ True) /\ ((((g1E (sb.take 48)) != 0) = false) /\ (((0 : Int) <= 48 /\ (48 : Int) <= (ofL sb).size) /\ (((0 : Int) <= 48 /\ (48 : Int) <= (ofL sb).size) /\ (True))))) /\ (some (wv N ([.l C] ++ pt1 (g1V (sb.take 48))) (i : Int) (i + 1) (sb.drop 48) (g1E (sb.take 48))) = some (wv N ([.l C] ++ pt1 (g1V (sb.take 48))) (i : Int) (i + 1) (sb.drop 48) (g1E (sb.take 48)))) := ⟨⟨⟨by show C.length + 0 = i * 13; omega, by omega, by omega, tt0⟩, ⟨by rw [h]; rfl, ⟨⟨by decide, by show (48 : Int) <= (sb.length : Nat); omega⟩, ⟨⟨by decide, by show (48 : Int) <= (sb.length : Nat); omega⟩, tt0⟩⟩⟩⟩, rfl⟩
 exact rY (P := prog) (X := qa _) (env := [rW, sJ]) ⟨qM, qY, tt0⟩ (tj (P := prog) (X := qa _) (env := [rW, sJ]) (os := oL [(124, rO 5 0), (138, rO 5 0), (156, wF)]) ⟨qM, qY, tt0⟩ 3) (os := oL OM) (fb := 0) (k := 110) (I := gkI N C i sb 0) (E := wv N ([.l C] ++ pt1 (g1V (sb.take 48))) (i : Int) (i + 1) (sb.drop 48) (g1E (sb.take 48))) (by kernel_rfl) (ai (ai (ai (ai (ai (ai (ai (ai hL tt0) tt0) tt0) tt0) tt0) tt0) (ai (ai (ai (ai (ai (ai (ai hL tt0) tt0) tt0) tt0) tt0) (ai (ai (ai (ai (ai (ai hL tt0) tt0) tt0) tt0) (ai (ai (ai (ai (ai hL tt0) tt0) tt0) tt0) tt0)) tt0)) tt0)) (ai (ai (ai (ai (ai (ai (ai (ai hL tt0) tt0) tt0) tt0) tt0) (ai (ai (ai (ai (ai (ai hL tt0) tt0) tt0) tt0) (ai (ai (ai (ai (ai hL tt0) tt0) tt0) tt0) tt0)) tt0)) (ai (ai (ai (ai (ai (ai (ai hL tt0) tt0) tt0) tt0) (ai (ai (ai (ai (ai hL tt0) tt0) tt0) tt0) tt0)) (ai (ai (ai (ai (ai (ai hL tt0) tt0) tt0) tt0) tt0) tt0)) tt0)) tt0))
def OL {N : Nat} {i : Nat} (hi : i < N) (hN : N <= 100000) {C : List Value} (hC : C.length = i * 13) := PLift.up (ai (show decide (((i : Nat) : Int) < ((N : Nat) : Int)) = true from decide_eq_true (by omega)) tt0)
theorem adx (N i : Nat) (sb : LU0) (hi : i < N) (hN : N <= 100000) (C : List Value) (hC : C.length = i * 13) (hl : 48 <= sb.length) (h : (g1E (sb.take 48)) = 0) : v7 (gkI N C i sb 0).aa .normal (gkI N (C ++ ptC (g1V (sb.take 48))) (i + 1) (sb.drop 48) (g1E (sb.take 48))).aa :=
 AW [(109, wT), (110, lpO { kd := 5, I := gkI N C i sb 0, ex := .normal, E := wv N ([.l C] ++ pt1 (g1V (sb.take 48))) (i : Int) (i + 1) (sb.drop 48) (g1E (sb.take 48)), fr := 161 })] 109 [(24, 160)] (ai (show ((rT 0) /\ (rT 0) /\ (rT 0) /\ (CE (.int .i64 (N : Int))) /\ (Value.int .i64 (IntKind.i64.wrap ((i : Int) + 1))) = (Value.int .i64 ((i + 1 : Nat) : Int)) /\ True) /\ ((uH 54 zk) /\ (uH 85 [.c (.string (ofL (sb.drop 48))), ci0 (g1E (sb.take 48))]) /\ (54 = 54 /\ (rT (i + 1)) /\ (qg (.int .u64 0)) /\ (qg (.int .u64 0)) /\ (qg (.int .u64 0)) /\ (qg (.int .u64 0)) /\ (qg (.int .u64 0)) /\ (qg (.int .u64 0)) /\ (qg (.int .u64 0)) /\ (qg (.int .u64 0)) /\ (qg (.int .u64 0)) /\ (qg (.int .u64 0)) /\ (qg (.int .u64 0)) /\ (qg (.int .u64 0)) /\ (qg (.int .u64 0)) /\ (qg (.int .u64 0)) /\ (qg (.int .u64 0)) /\ (qg (.int .u64 0)) /\ (qg (.int .u64 0)) /\ (qg (.int .u64 0)) /\ (qg (.int .u64 0)) /\ (qg (.int .u64 0)) /\ (qg (.int .u64 0)) /\ (qg (.int .u64 0)) /\ (qg (.int .u64 0)) /\ (qg (.int .u64 0)) /\ (true = true /\ true = true /\ [Value.bool false] = [Value.bool false]) /\ True) /\ ((26 = 26 /\ 13 = 13) /\ flat ([.l C] ++ pt1 (g1V (sb.take 48))) = flat [.l (C ++ ptC (g1V (sb.take 48)))]) /\ True) from ⟨⟨rr0, rr0, rr0, rfl, by rw [show IntKind.i64.wrap ((i : Int) + 1) = ((i + 1 : Nat) : Int) by rw [qj]; omega], tt0⟩, rr0, rr0, ⟨rfl, ⟨rr0, r30, r30, r30, r30, r30, r30, r30, r30, r30, r30, r30, r30, r30, r30, r30, r30, r30, r30, r30, r30, r30, r30, r30, r30, r30, tt0⟩⟩, ⟨rr0, ado C _⟩, tt0⟩) (ai (show some (gkI N C i sb 0) = some (gkI N C i sb 0) from rfl) (ai (OX N i sb hi hN C hC hl h)
   (OL hi hN hC).down)))
theorem Rq (N i : Nat) (sb : LU0) (hi : i < N) (hN : N <= 100000) (C : List Value) (hC : C.length = i * 13) (hl : 48 <= sb.length) (h : (g1E (sb.take 48)) ≠ 0) : A0 (gkI N C i sb 0).aa .normal (wv N ([.l C] ++ qS) (i : Int) (i + 1) (sb.drop 48) (g1E (sb.take 48))).aa := by
 have hL : ((qq [.l C] = i * 13 /\ i + 1 <= 9223372036854775807 /\ (i + 1) * 104 <= 140737488355328 /\ True) /\ ((((g1E (sb.take 48)) != 0) = true) /\ (((0 : Int) <= 48 /\ (48 : Int) <= (ofL sb).size) /\ (((0 : Int) <= 48 /\ (48 : Int) <= (ofL sb).size) /\ (True))))) /\ (some (wv N ([.l C] ++ qS) (i : Int) (i + 1) (sb.drop 48) (g1E (sb.take 48))) = some (wv N ([.l C] ++ qS) (i : Int) (i + 1) (sb.drop 48) (g1E (sb.take 48)))) := ⟨⟨⟨by show C.length + 0 = i * 13; omega, by omega, by omega, tt0⟩, ⟨by simpa using h, ⟨⟨by decide, by show (48 : Int) <= (sb.length : Nat); omega⟩, ⟨⟨by decide, by show (48 : Int) <= (sb.length : Nat); omega⟩, tt0⟩⟩⟩⟩, rfl⟩
 exact rY (P := prog) (X := qa _) (env := [rW, sJ]) ⟨qM, qY, tt0⟩ (tj (P := prog) (X := qa _) (env := [rW, sJ]) (os := oL [(124, rO 5 0), (138, rO 5 0), (156, wT)]) ⟨qM, qY, tt0⟩ 3) (os := oL OM) (fb := 0) (k := 110) (I := gkI N C i sb 0) (E := wv N ([.l C] ++ qS) (i : Int) (i + 1) (sb.drop 48) (g1E (sb.take 48))) (by kernel_rfl) (ai (ai (ai (ai (ai (ai (ai (ai hL tt0) tt0) tt0) tt0) tt0) tt0) (ai (ai (ai (ai (ai (ai (ai hL tt0) tt0) tt0) tt0) tt0) (ai (ai (ai (ai (ai (ai hL tt0) tt0) tt0) tt0) (ai (ai (ai (ai (ai hL tt0) tt0) tt0) tt0) tt0)) tt0)) tt0)) (ai (ai (ai (ai (ai (ai (ai (ai hL tt0) tt0) tt0) tt0) tt0) (ai (ai (ai (ai (ai (ai hL tt0) tt0) tt0) tt0) (ai (ai (ai (ai (ai hL tt0) tt0) tt0) tt0) tt0)) tt0)) (ai (ai (ai (ai (ai (ai (ai hL tt0) tt0) tt0) tt0) (ai (ai (ai (ai (ai hL tt0) tt0) tt0) tt0) tt0)) (ai (ai (ai (ai (ai (ai hL tt0) tt0) tt0) tt0) tt0) tt0)) tt0)) tt0))
theorem acF (N i : Nat) (sb : LU0) (hi : i < N) (hN : N <= 100000) (C : List Value) (hC : C.length = i * 13) (hl : 48 <= sb.length) (h : (g1E (sb.take 48)) ≠ 0) : v7 (gkI N C i sb 0).aa .normal (gkI N (C ++ ptC (g1V (sb.take 48))) (i + 1) (sb.drop 48) (g1E (sb.take 48))).aa :=
 AW [(109, wT), (110, lpO { kd := 5, I := gkI N C i sb 0, ex := .normal, E := wv N ([.l C] ++ qS) (i : Int) (i + 1) (sb.drop 48) (g1E (sb.take 48)), fr := 161 })] 109 [(24, 160)] (ai (show ((rT 0) /\ (rT 0) /\ (rT 0) /\ (CE (.int .i64 (N : Int))) /\ (Value.int .i64 (IntKind.i64.wrap ((i : Int) + 1))) = (Value.int .i64 ((i + 1 : Nat) : Int)) /\ True) /\ ((uH 54 zk) /\ (uH 85 [.c (.string (ofL (sb.drop 48))), ci0 (g1E (sb.take 48))]) /\ (54 = 54 /\ (rT (i + 1)) /\ (qg (.int .u64 0)) /\ (qg (.int .u64 0)) /\ (qg (.int .u64 0)) /\ (qg (.int .u64 0)) /\ (qg (.int .u64 0)) /\ (qg (.int .u64 0)) /\ (qg (.int .u64 0)) /\ (qg (.int .u64 0)) /\ (qg (.int .u64 0)) /\ (qg (.int .u64 0)) /\ (qg (.int .u64 0)) /\ (qg (.int .u64 0)) /\ (qg (.int .u64 0)) /\ (qg (.int .u64 0)) /\ (qg (.int .u64 0)) /\ (qg (.int .u64 0)) /\ (qg (.int .u64 0)) /\ (qg (.int .u64 0)) /\ (qg (.int .u64 0)) /\ (qg (.int .u64 0)) /\ (qg (.int .u64 0)) /\ (qg (.int .u64 0)) /\ (qg (.int .u64 0)) /\ (qg (.int .u64 0)) /\ (true = true /\ true = true /\ [Value.bool false] = [Value.bool false]) /\ True) /\ ((26 = 26 /\ 13 = 13) /\ flat ([.l C] ++ qS) = flat [.l (C ++ ptC (g1V (sb.take 48)))]) /\ True) from ⟨⟨rr0, rr0, rr0, rfl, by rw [show IntKind.i64.wrap ((i : Int) + 1) = ((i + 1 : Nat) : Int) by rw [qj]; omega], tt0⟩, rr0, rr0, ⟨rfl, ⟨rr0, r30, r30, r30, r30, r30, r30, r30, r30, r30, r30, r30, r30, r30, r30, r30, r30, r30, r30, r30, r30, r30, r30, r30, r30, r30, tt0⟩⟩, ⟨rr0, by rw [ry h]; exact Zn C⟩, tt0⟩) (ai (show some (gkI N C i sb 0) = some (gkI N C i sb 0) from rfl) (ai (Rq N i sb hi hN C hC hl h)
   (OL hi hN hC).down)))
theorem O1 (N i : Nat) (sb : LU0) (hi : i < N) (hN : N <= 100000) (C : List Value) (hC : C.length = i * 13) (e : Int) (h : e ≠ 0) : A0 (gkI N C i sb e).aa .normal (DC N ([.l C] ++ qS) (i : Int) (i + 1) sb e).aa := by
 have hL : ((qq [.l C] = i * 13 /\ i + 1 <= 9223372036854775807 /\ (i + 1) * 104 <= 140737488355328 /\ True) /\ (((e != 0) = true) /\ (True))) /\ (some (DC N ([.l C] ++ qS) (i : Int) (i + 1) sb e) = some (DC N ([.l C] ++ qS) (i : Int) (i + 1) sb e)) := ⟨⟨⟨by show C.length + 0 = i * 13; omega, by omega, by omega, tt0⟩, ⟨by simpa using h, tt0⟩⟩, rfl⟩
 exact rY (P := prog) (X := qa _) (env := [rW, sJ]) ⟨qM, qY, tt0⟩ (tj (P := prog) (X := qa _) (env := [rW, sJ]) (os := oL [(117, wT)]) ⟨qM, qY, tt0⟩ 3) (os := oL OM) (fb := 0) (k := 110) (I := gkI N C i sb e) (E := DC N ([.l C] ++ qS) (i : Int) (i + 1) sb e) (by kernel_rfl) (ai (ai (ai (ai (ai (ai (ai (ai hL tt0) tt0) tt0) tt0) tt0) tt0) (ai (ai (ai (ai (ai (ai (ai hL tt0) tt0) tt0) tt0) tt0) (ai (ai (ai (ai (ai (ai hL tt0) tt0) tt0) tt0) (ai (ai (ai (ai (ai hL tt0) tt0) tt0) tt0) tt0)) tt0)) tt0)) (ai (ai (ai (ai (ai (ai (ai (ai hL tt0) tt0) tt0) tt0) tt0) (ai (ai (ai (ai (ai (ai hL tt0) tt0) tt0) tt0) (ai (ai (ai (ai (ai hL tt0) tt0) tt0) tt0) tt0)) tt0)) (ai (ai (ai (ai (ai (ai (ai hL tt0) tt0) tt0) tt0) (ai (ai (ai (ai (ai hL tt0) tt0) tt0) tt0) tt0)) (ai (ai (ai (ai (ai (ai hL tt0) tt0) tt0) tt0) tt0) tt0)) tt0)) tt0))
theorem adr (N i : Nat) (sb : LU0) (hi : i < N) (hN : N <= 100000) (C : List Value) (hC : C.length = i * 13) (e : Int) (h : e ≠ 0) : v7 (gkI N C i sb e).aa .normal (gkI N (C ++ ptC p1z) (i + 1) sb e).aa :=
 AW [(109, wT), (110, lpO { kd := 5, I := gkI N C i sb e, ex := .normal, E := DC N ([.l C] ++ qS) (i : Int) (i + 1) sb e, fr := 161 })] 109 [(24, 121)] (ai (show ((rT 0) /\ (rT 0) /\ (rT 0) /\ (CE (.int .i64 (N : Int))) /\ (Value.int .i64 (IntKind.i64.wrap ((i : Int) + 1))) = (Value.int .i64 ((i + 1 : Nat) : Int)) /\ True) /\ ((uH 54 zk) /\ (uH 85 [.c (.string (ofL sb)), ci0 e]) /\ (54 = 54 /\ (rT (i + 1)) /\ (qg (.int .u64 0)) /\ (qg (.int .u64 0)) /\ (qg (.int .u64 0)) /\ (qg (.int .u64 0)) /\ (qg (.int .u64 0)) /\ (qg (.int .u64 0)) /\ (qg (.int .u64 0)) /\ (qg (.int .u64 0)) /\ (qg (.int .u64 0)) /\ (qg (.int .u64 0)) /\ (qg (.int .u64 0)) /\ (qg (.int .u64 0)) /\ (qg (.int .u64 0)) /\ (qg (.int .u64 0)) /\ (qg (.int .u64 0)) /\ (qg (.int .u64 0)) /\ (qg (.int .u64 0)) /\ (qg (.int .u64 0)) /\ (qg (.int .u64 0)) /\ (qg (.int .u64 0)) /\ (qg (.int .u64 0)) /\ (qg (.int .u64 0)) /\ (qg (.int .u64 0)) /\ (qg (.int .u64 0)) /\ (true = true /\ true = true /\ [Value.bool false] = [Value.bool false]) /\ True) /\ ((26 = 26 /\ 13 = 13) /\ flat ([.l C] ++ qS) = flat [.l (C ++ ptC p1z)]) /\ True) from ⟨⟨rr0, rr0, rr0, rfl, by rw [show IntKind.i64.wrap ((i : Int) + 1) = ((i + 1 : Nat) : Int) by rw [qj]; omega], tt0⟩, rr0, rr0, ⟨rfl, ⟨rr0, r30, r30, r30, r30, r30, r30, r30, r30, r30, r30, r30, r30, r30, r30, r30, r30, r30, r30, r30, r30, r30, r30, r30, r30, r30, tt0⟩⟩, ⟨rr0, Zn C⟩, tt0⟩) (ai (show some (gkI N C i sb e) = some (gkI N C i sb e) from rfl) (ai (O1 N i sb hi hN C hC e h)
   (OL hi hN hC).down)))
theorem Up (N : Nat) (hN : N = 0) (sb : LU0) (e : Int) : v7 (gkZ N sb e).aa (.exit 0) (Z7 sb e).aa :=
 Gs [(109, wF)] 109 [2, 4, 6] [0, 23, 106] (ai (show decide ((0 : Int) < ((N : Nat) : Int)) = false from decide_eq_false (by omega)) tt0)
theorem WZ (N : Nat) (C : List Value) (sb : LU0) (e : Int) : v7 (gkI N C N sb e).aa (.exit 0) (gkE C N sb e).aa :=
 Gs [(109, wF)] 109 [2, 4, 6] [0, 23, 106, 24] (ai (show decide (((N : Nat) : Int) < ((N : Nat) : Int)) = false from decide_eq_false (by omega)) tt0)
def gkV (st : Int × LU0) (j : Nat) : A1 := rvl 48 g1V p1z (nst 48 g1E j st)
def zm (st : Int × LU0) (i : Nat) : List A1 := (List.range i).map (gkV st)
theorem EJ (st : Int × LU0) (i : Nat) : qt (zm st (i + 1)) = qt (zm st i) ++ ptC (gkV st i) := by
 unfold zm
 rw [List.range_succ, List.map_append]
 simp [qt]
theorem Bj : ∀ l : List A1, (qt l).length = l.length * 13
 | [] => rfl
 | g :: l => by
  have ih := Bj l
  simp only [qt, List.flatMap_cons, List.length_append, zA, List.length_cons] at ih ⊢
  omega
theorem Rz (st : Int × LU0) (i : Nat) : (qt (zm st i)).length = i * 13 := by
 rw [Bj]; simp [zm]
theorem gkz (N : Nat) (hi : 0 < N) (st : Int × LU0) (hl : st.1 = 0 -> 48 <= st.2.length) : v7 (gkZ N st.2 st.1).aa .normal (gkI N (ptC (rvl 48 g1V p1z st)) 1 (rst 48 g1E st).2 (rst 48 g1E st).1).aa := by
 obtain ⟨e, sb⟩ := st
 by_cases h : e = 0
 ·subst h
  by_cases h1 : g1E (sb.take 48) = 0
  ·exact adG N hi sb (hl rfl) h1
  ·exact adf N hi sb (hl rfl) h1
 ·rw [show rst 48 g1E (e, sb) = (e, sb) from if_neg h, show rvl 48 g1V p1z (e, sb) = p1z from if_neg h]
  exact adT N hi sb e h
theorem gkr (N i : Nat) (hi : i < N) (hN : N <= 100000) (C : List Value) (hC : C.length = i * 13) (st : Int × LU0) (hl : st.1 = 0 -> 48 <= st.2.length) : v7 (gkI N C i st.2 st.1).aa .normal (gkI N (C ++ ptC (rvl 48 g1V p1z st)) (i + 1) (rst 48 g1E st).2 (rst 48 g1E st).1).aa := by
 obtain ⟨e, sb⟩ := st
 by_cases h : e = 0
 ·subst h
  by_cases h1 : g1E (sb.take 48) = 0
  ·exact adx N i sb hi hN C hC (hl rfl) h1
  ·exact acF N i sb hi hN C hC (hl rfl) h1
 ·rw [show rst 48 g1E (e, sb) = (e, sb) from if_neg h, show rvl 48 g1V p1z (e, sb) = p1z from if_neg h]
  exact adr N i sb hi hN C hC e h
def gkF (N : Nat) (st : Int × LU0) : Nat -> LState
 | 0 => gkZ N st.2 st.1
 | i + 1 => gkI N (qt (zm st (i + 1))) (i + 1) (nst 48 g1E (i + 1) st).2 (nst 48 g1E (i + 1) st).1
theorem WG (N : Nat) (st : Int × LU0) (h0 : st.1 = 0 -> 48 * N <= st.2.length) (i : Nat) (hi : i < N) : (nst 48 g1E i st).1 = 0 -> 48 <= (nst 48 g1E i st).2.length := by
 intro h
 obtain ⟨h1, h2, _⟩ := rq i st h
 rw [h2]
 show 48 <= (st.2.drop (48 * i)).length
 have := h0 h1
 rw [List.length_drop]
 omega
theorem W6 (N : Nat) (h1 : 0 < N) (hN : N <= 100000) (st : Int × LU0) (h0 : st.1 = 0 -> 48 * N <= st.2.length) : Sound prog 0 false (.loop (qc f10 0)) (gkZ N st.2 st.1).aa (.exit 0) (gkE (qt (zm st N)) N (nst 48 g1E N st).2 (nst 48 g1E N st).1).aa := by
 have hh := qw (P := prog) (fb := 0) (rd := false) (body := (qc f10 0)) (ex := .exit 0) (E := gkE (qt (zm st N)) N (nst 48 g1E N st).2 (nst 48 g1E N st).1) (m := fun y : { i : Nat // i <= N } => N - y.val) (fun y => gkF N st y.val) (by simp) (fun y => ?_) ⟨0, by omega⟩
 ·exact hh
 obtain ⟨i, hi⟩ := y
 by_cases e : i < N
 ·refine .inl ⟨⟨i + 1, e⟩, by show N - (i + 1) < N - i; omega, ?_⟩
  have hl := WG N st h0 i e
  cases i with
  | zero =>
   have h := gkz N e st hl
   show Sound _ _ _ _ (gkZ N st.2 st.1).aa _ (gkI N (qt (zm st 1)) 1 _ _).aa
   rw [EJ, show qt (zm st 0) = [] from rfl, List.nil_append]
   exact h
  | succ k =>
   have h := gkr N (k + 1) e hN (qt (zm st (k + 1))) (Rz st _) (nst 48 g1E (k + 1) st) hl
   show Sound _ _ _ _ _ _ (gkI N (qt (zm st (k + 1 + 1))) (k + 1 + 1) _ _).aa
   rw [EJ]
   exact h
 ·have e : i = N := by omega
  subst e
  refine .inr ?_
  cases i with
  | zero => omega
  | succ k => exact WZ (k + 1) _ _ _
end Go.Proofs.YtokjhbmmdmeafaaGreat
