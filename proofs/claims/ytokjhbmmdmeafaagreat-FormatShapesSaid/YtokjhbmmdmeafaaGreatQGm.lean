/- Pruned: Gm. -/
import Derived.Test.YtokjhbmmdmeafaaGreatQGg
import Derived.Test.YtokjhbmmdmeafaaGreatQGj
import Derived.Test.YtokjhbmmdmeafaaGreatQGl
set_option linter.unusedSimpArgs false
set_option linter.unusedVariables false
namespace Go.Proofs.YtokjhbmmdmeafaaGreat
open Go.Ev Go.RowKit
open Tryz
abbrev pF (v : Value) : Prop := true = true /\ true = true /\ [v] = [v]
abbrev qs (n : Nat) : Prop := true = true /\ n = n
abbrev sH (t : Nat) (l : List Ch) : Prop := t = t /\ flat l = flat l
abbrev yi (v : Value) : Prop := v = v
def KB : List Ch := List.replicate 24 (.c (.int .u64 0)) ++ [.c (.bool false)]
def zvL : List Ch := (List.replicate 8 qk).flatten ++ KB
def u7 : List Ch := [ci0 0, ci0 0] ++ zvL
def p2z : A2 := ((0, 0), (0, 0), false)
def gcI (v : VT) (sb : LU0) (e i : Int) : LState := { n := 53, sl := [(2, .p 0 0), (4, .p 23 0), (6, .p 36 0), (21, vi0 i)], hp := [(0, .own u7 41), (23, .own [.c (.string (ofL sb)), ci0 e] 85), (36, .own v.ch 41)] }
def gcK (v : VT) (sb : LU0) (e i : Int) : LState := { n := 53, sl := [(2, .p 0 0), (4, .p 23 0), (6, .p 36 0), (30, vi0 i)], hp := [(0, .own u7 41), (23, .own [.c (.string (ofL sb)), ci0 e] 85), (36, .own v.ch 41)] }
def gcE (v : VT) (sb : LU0) (e : Int) : LState := { n := 53, sl := [(2, .p 0 0), (4, .p 23 0), (6, .p 36 0)], hp := [(0, .own u7 41), (23, .own [.c (.string (ofL sb)), ci0 e] 85), (36, .own v.ch 41)] }
theorem gcF (j k : Int) (hk : Value.int .i64 (IntKind.i64.wrap (j + 1)) = Value.int .i64 k) {sb : LU0} {e : Int} {a b : List Ch} (h : flat a = flat b) : ((qs 0) /\ (qs 0) /\ (qs 0) /\ (Value.int .i64 (IntKind.i64.wrap (j + 1))) = (Value.int .i64 k) /\ True) /\ ((sH 41 u7) /\ (sH 85 [.c (.string (ofL sb)), ci0 e]) /\ (41 = 41 /\ flat a = flat b) /\ True) :=
 ⟨⟨rr0, rr0, rr0, hk, tt0⟩, rr0, rr0, ⟨rfl, h⟩, tt0⟩
theorem tk {os : Nat -> Ora} {c : Code} {I J : LState} {ex : Ex} {ob : Prop} (h : wu prog (pC _) [qD, q8] 3 os 0 false c 156 I J [] = some (ex, ob)) (hob : ob) : Sound prog 0 false c I.aa ex J.aa := rV (P := prog) (X := pC _) (env := [qD, q8]) ⟨qf, qo, tt0⟩ h hob
abbrev qS (a : AA) (e : Ex) (b : AA) : Prop := Sound prog 0 false (pI f7 0) a e b
theorem Xg (v : VT) (sb : LU0) (e : Int) (hl : 48 <= sb.length) (h : (g1E (sb.take 48)) = 0) : qS (gcI v sb 0 0).aa .normal (gcI { v with q0 := (g1V (sb.take 48)) } (sb.drop 48) (g1E (sb.take 48)) 1).aa :=
 tk (os := oL [(175, rO 5 0), (189, rO 5 0), (207, wF)]) (by kernel_rfl) (ai (gcF 0 1 rfl (sb := (sb.drop 48)) (e := (g1E (sb.take 48))) (a := ins v.ch 2 3 (pt1 (g1V (sb.take 48)))) (b := ({ v with q0 := (g1V (sb.take 48)) } : VT).ch) (by kernel_rfl)) (ai (eqz h) (ai (pt hl) (ai (pt hl) tt0))))
theorem YE (v : VT) (sb : LU0) (e : Int) (hl : 48 <= sb.length) (h : (g1E (sb.take 48)) ≠ 0) : qS (gcI v sb 0 0).aa .normal (gcI { v with q0 := (g1V (sb.take 48)) } (sb.drop 48) (g1E (sb.take 48)) 1).aa :=
 tk (os := oL [(175, rO 5 0), (189, rO 5 0), (207, wT)]) (by kernel_rfl) (ai (gcF 0 1 rfl (sb := (sb.drop 48)) (e := (g1E (sb.take 48))) (a := ins v.ch 2 3 (qk)) (b := ({ v with q0 := (g1V (sb.take 48)) } : VT).ch) (by rw [qB h]; kernel_rfl)) (ai (nez h) (ai (pt hl) (ai (pt hl) tt0))))
theorem W7 (v : VT) (sb : LU0) (e : Int) (h : e ≠ 0) : qS (gcI v sb e 0).aa .normal (gcI { v with q0 := p1z } sb e 1).aa :=
 tk (os := oL [(168, wT)]) (by kernel_rfl) (ai (gcF 0 1 rfl (sb := sb) (e := e) (a := ins v.ch 2 3 (qk)) (b := ({ v with q0 := p1z } : VT).ch) (by kernel_rfl)) (ai (nez h) tt0))
theorem abM (v : VT) (st : Int × LU0) (hl : st.1 = 0 -> 48 <= st.2.length) : qS (gcI v st.2 st.1 0).aa .normal (gcI { v with q0 := rvl 48 g1V p1z st } (rst 48 g1E st).2 (rst 48 g1E st).1 1).aa := by
 obtain ⟨e, sb⟩ := st
 by_cases h : e = 0
 ·subst h
  by_cases h1 : g1E (sb.take 48) = 0
  ·exact Xg v sb 0 (hl rfl) h1
  ·exact YE v sb 0 (hl rfl) h1
 ·rw [show rst 48 g1E (e, sb) = (e, sb) from if_neg h, show rvl 48 g1V p1z (e, sb) = p1z from if_neg h]
  exact W7 v sb e h
theorem YO (v : VT) (sb : LU0) (e : Int) (hl : 48 <= sb.length) (h : (g1E (sb.take 48)) = 0) : qS (gcI v sb 0 1).aa .normal (gcI { v with q1 := (g1V (sb.take 48)) } (sb.drop 48) (g1E (sb.take 48)) 2).aa :=
 tk (os := oL [(175, rO 5 0), (189, rO 5 0), (207, wF)]) (by kernel_rfl) (ai (gcF 1 2 rfl (sb := (sb.drop 48)) (e := (g1E (sb.take 48))) (a := ins v.ch 5 3 (pt1 (g1V (sb.take 48)))) (b := ({ v with q1 := (g1V (sb.take 48)) } : VT).ch) (by kernel_rfl)) (ai (eqz h) (ai (pt hl) (ai (pt hl) tt0))))
theorem abf (v : VT) (sb : LU0) (e : Int) (hl : 48 <= sb.length) (h : (g1E (sb.take 48)) ≠ 0) : qS (gcI v sb 0 1).aa .normal (gcI { v with q1 := (g1V (sb.take 48)) } (sb.drop 48) (g1E (sb.take 48)) 2).aa :=
 tk (os := oL [(175, rO 5 0), (189, rO 5 0), (207, wT)]) (by kernel_rfl) (ai (gcF 1 2 rfl (sb := (sb.drop 48)) (e := (g1E (sb.take 48))) (a := ins v.ch 5 3 (qk)) (b := ({ v with q1 := (g1V (sb.take 48)) } : VT).ch) (by rw [qB h]; kernel_rfl)) (ai (nez h) (ai (pt hl) (ai (pt hl) tt0))))
theorem Yz (v : VT) (sb : LU0) (e : Int) (h : e ≠ 0) : qS (gcI v sb e 1).aa .normal (gcI { v with q1 := p1z } sb e 2).aa :=
 tk (os := oL [(168, wT)]) (by kernel_rfl) (ai (gcF 1 2 rfl (sb := sb) (e := e) (a := ins v.ch 5 3 (qk)) (b := ({ v with q1 := p1z } : VT).ch) (by kernel_rfl)) (ai (nez h) tt0))
theorem abu (v : VT) (st : Int × LU0) (hl : st.1 = 0 -> 48 <= st.2.length) : qS (gcI v st.2 st.1 1).aa .normal (gcI { v with q1 := rvl 48 g1V p1z st } (rst 48 g1E st).2 (rst 48 g1E st).1 2).aa := by
 obtain ⟨e, sb⟩ := st
 by_cases h : e = 0
 ·subst h
  by_cases h1 : g1E (sb.take 48) = 0
  ·exact YO v sb 0 (hl rfl) h1
  ·exact abf v sb 0 (hl rfl) h1
 ·rw [show rst 48 g1E (e, sb) = (e, sb) from if_neg h, show rvl 48 g1V p1z (e, sb) = p1z from if_neg h]
  exact Yz v sb e h
theorem aaE (v : VT) (sb : LU0) (e : Int) (hl : 48 <= sb.length) (h : (g1E (sb.take 48)) = 0) : qS (gcI v sb 0 2).aa .normal (gcI { v with q2 := (g1V (sb.take 48)) } (sb.drop 48) (g1E (sb.take 48)) 3).aa :=
 tk (os := oL [(175, rO 5 0), (189, rO 5 0), (207, wF)]) (by kernel_rfl) (ai (gcF 2 3 rfl (sb := (sb.drop 48)) (e := (g1E (sb.take 48))) (a := ins v.ch 8 3 (pt1 (g1V (sb.take 48)))) (b := ({ v with q2 := (g1V (sb.take 48)) } : VT).ch) (by kernel_rfl)) (ai (eqz h) (ai (pt hl) (ai (pt hl) tt0))))
theorem YF (v : VT) (sb : LU0) (e : Int) (hl : 48 <= sb.length) (h : (g1E (sb.take 48)) ≠ 0) : qS (gcI v sb 0 2).aa .normal (gcI { v with q2 := (g1V (sb.take 48)) } (sb.drop 48) (g1E (sb.take 48)) 3).aa :=
 tk (os := oL [(175, rO 5 0), (189, rO 5 0), (207, wT)]) (by kernel_rfl) (ai (gcF 2 3 rfl (sb := (sb.drop 48)) (e := (g1E (sb.take 48))) (a := ins v.ch 8 3 (qk)) (b := ({ v with q2 := (g1V (sb.take 48)) } : VT).ch) (by rw [qB h]; kernel_rfl)) (ai (nez h) (ai (pt hl) (ai (pt hl) tt0))))
theorem Yv (v : VT) (sb : LU0) (e : Int) (h : e ≠ 0) : qS (gcI v sb e 2).aa .normal (gcI { v with q2 := p1z } sb e 3).aa :=
 tk (os := oL [(168, wT)]) (by kernel_rfl) (ai (gcF 2 3 rfl (sb := sb) (e := e) (a := ins v.ch 8 3 (qk)) (b := ({ v with q2 := p1z } : VT).ch) (by kernel_rfl)) (ai (nez h) tt0))
theorem acz (v : VT) (st : Int × LU0) (hl : st.1 = 0 -> 48 <= st.2.length) : qS (gcI v st.2 st.1 2).aa .normal (gcI { v with q2 := rvl 48 g1V p1z st } (rst 48 g1E st).2 (rst 48 g1E st).1 3).aa := by
 obtain ⟨e, sb⟩ := st
 by_cases h : e = 0
 ·subst h
  by_cases h1 : g1E (sb.take 48) = 0
  ·exact aaE v sb 0 (hl rfl) h1
  ·exact YF v sb 0 (hl rfl) h1
 ·rw [show rst 48 g1E (e, sb) = (e, sb) from if_neg h, show rvl 48 g1V p1z (e, sb) = p1z from if_neg h]
  exact Yv v sb e h
theorem YM (v : VT) (sb : LU0) (e : Int) (hl : 48 <= sb.length) (h : (g1E (sb.take 48)) = 0) : qS (gcI v sb 0 3).aa .normal (gcI { v with q3 := (g1V (sb.take 48)) } (sb.drop 48) (g1E (sb.take 48)) 4).aa :=
 tk (os := oL [(175, rO 5 0), (189, rO 5 0), (207, wF)]) (by kernel_rfl) (ai (gcF 3 4 rfl (sb := (sb.drop 48)) (e := (g1E (sb.take 48))) (a := ins v.ch 11 3 (pt1 (g1V (sb.take 48)))) (b := ({ v with q3 := (g1V (sb.take 48)) } : VT).ch) (by kernel_rfl)) (ai (eqz h) (ai (pt hl) (ai (pt hl) tt0))))
theorem aaR (v : VT) (sb : LU0) (e : Int) (hl : 48 <= sb.length) (h : (g1E (sb.take 48)) ≠ 0) : qS (gcI v sb 0 3).aa .normal (gcI { v with q3 := (g1V (sb.take 48)) } (sb.drop 48) (g1E (sb.take 48)) 4).aa :=
 tk (os := oL [(175, rO 5 0), (189, rO 5 0), (207, wT)]) (by kernel_rfl) (ai (gcF 3 4 rfl (sb := (sb.drop 48)) (e := (g1E (sb.take 48))) (a := ins v.ch 11 3 (qk)) (b := ({ v with q3 := (g1V (sb.take 48)) } : VT).ch) (by rw [qB h]; kernel_rfl)) (ai (nez h) (ai (pt hl) (ai (pt hl) tt0))))
theorem Zd (v : VT) (sb : LU0) (e : Int) (h : e ≠ 0) : qS (gcI v sb e 3).aa .normal (gcI { v with q3 := p1z } sb e 4).aa :=
 tk (os := oL [(168, wT)]) (by kernel_rfl) (ai (gcF 3 4 rfl (sb := sb) (e := e) (a := ins v.ch 11 3 (qk)) (b := ({ v with q3 := p1z } : VT).ch) (by kernel_rfl)) (ai (nez h) tt0))
theorem ack (v : VT) (st : Int × LU0) (hl : st.1 = 0 -> 48 <= st.2.length) : qS (gcI v st.2 st.1 3).aa .normal (gcI { v with q3 := rvl 48 g1V p1z st } (rst 48 g1E st).2 (rst 48 g1E st).1 4).aa := by
 obtain ⟨e, sb⟩ := st
 by_cases h : e = 0
 ·subst h
  by_cases h1 : g1E (sb.take 48) = 0
  ·exact YM v sb 0 (hl rfl) h1
  ·exact aaR v sb 0 (hl rfl) h1
 ·rw [show rst 48 g1E (e, sb) = (e, sb) from if_neg h, show rvl 48 g1V p1z (e, sb) = p1z from if_neg h]
  exact Zd v sb e h
theorem Xf (v : VT) (sb : LU0) (e : Int) (hl : 48 <= sb.length) (h : (g1E (sb.take 48)) = 0) : qS (gcI v sb 0 4).aa .normal (gcI { v with q4 := (g1V (sb.take 48)) } (sb.drop 48) (g1E (sb.take 48)) 5).aa :=
 tk (os := oL [(175, rO 5 0), (189, rO 5 0), (207, wF)]) (by kernel_rfl) (ai (gcF 4 5 rfl (sb := (sb.drop 48)) (e := (g1E (sb.take 48))) (a := ins v.ch 14 3 (pt1 (g1V (sb.take 48)))) (b := ({ v with q4 := (g1V (sb.take 48)) } : VT).ch) (by kernel_rfl)) (ai (eqz h) (ai (pt hl) (ai (pt hl) tt0))))
theorem ZM (v : VT) (sb : LU0) (e : Int) (hl : 48 <= sb.length) (h : (g1E (sb.take 48)) ≠ 0) : qS (gcI v sb 0 4).aa .normal (gcI { v with q4 := (g1V (sb.take 48)) } (sb.drop 48) (g1E (sb.take 48)) 5).aa :=
 tk (os := oL [(175, rO 5 0), (189, rO 5 0), (207, wT)]) (by kernel_rfl) (ai (gcF 4 5 rfl (sb := (sb.drop 48)) (e := (g1E (sb.take 48))) (a := ins v.ch 14 3 (qk)) (b := ({ v with q4 := (g1V (sb.take 48)) } : VT).ch) (by rw [qB h]; kernel_rfl)) (ai (nez h) (ai (pt hl) (ai (pt hl) tt0))))
theorem Zp (v : VT) (sb : LU0) (e : Int) (h : e ≠ 0) : qS (gcI v sb e 4).aa .normal (gcI { v with q4 := p1z } sb e 5).aa :=
 tk (os := oL [(168, wT)]) (by kernel_rfl) (ai (gcF 4 5 rfl (sb := sb) (e := e) (a := ins v.ch 14 3 (qk)) (b := ({ v with q4 := p1z } : VT).ch) (by kernel_rfl)) (ai (nez h) tt0))
theorem abX (v : VT) (st : Int × LU0) (hl : st.1 = 0 -> 48 <= st.2.length) : qS (gcI v st.2 st.1 4).aa .normal (gcI { v with q4 := rvl 48 g1V p1z st } (rst 48 g1E st).2 (rst 48 g1E st).1 5).aa := by
 obtain ⟨e, sb⟩ := st
 by_cases h : e = 0
 ·subst h
  by_cases h1 : g1E (sb.take 48) = 0
  ·exact Xf v sb 0 (hl rfl) h1
  ·exact ZM v sb 0 (hl rfl) h1
 ·rw [show rst 48 g1E (e, sb) = (e, sb) from if_neg h, show rvl 48 g1V p1z (e, sb) = p1z from if_neg h]
  exact Zp v sb e h
def vvA (v : VT) (V : Nat -> A1) (i : Nat) : VT := { v with q0 := if 0 < i then V 0 else v.q0, q1 := if 1 < i then V 1 else v.q1, q2 := if 2 < i then V 2 else v.q2, q3 := if 3 < i then V 3 else v.q3, q4 := if 4 < i then V 4 else v.q4 }
theorem C9 {c : Code} {I L : LState} {ex : Ex} {b : Prop} (o : LO0) (k : Nat) (sk hk : List Nat) (hb : b) (h : vj prog (pC _) [] 0 (oL o) 0 false c k I sk hk [] = some (ex, L, b) := by kernel_rfl) : Sound prog 0 false c I.aa ex L.aa := pG (P := prog) (X := pC _) (env := []) trivial h hb
theorem SO (v : VT) (sb : LU0) (e : Int) : qS (gcI v sb e 5).aa (.exit 0) (gcE v sb e).aa :=
 C9 [] 156 [2, 4, 6] [0, 23, 36] trivial
theorem RT (st : Int × LU0) (h0 : st.1 = 0 -> 240 <= st.2.length) (i : Nat) (hi : i < 5) : (nst 48 g1E i st).1 = 0 -> 48 <= (nst 48 g1E i st).2.length := by
 intro h
 obtain ⟨h1, h2, _⟩ := p7 i st h
 rw [h2]
 show 48 <= (st.2.drop (48 * i)).length
 have := h0 h1
 rw [List.length_drop]
 omega
theorem xh (v : VT) (st : Int × LU0) (h0 : st.1 = 0 -> 240 <= st.2.length) : Sound prog 0 false (.loop (pI f7 0)) (gcI (vvA v (fun j => rvl 48 g1V p1z (nst 48 g1E j st)) 0) st.2 st.1 0).aa (.exit 0) (gcE (vvA v (fun j => rvl 48 g1V p1z (nst 48 g1E j st)) 5) (nst 48 g1E 5 st).2 (nst 48 g1E 5 st).1).aa := by
 have hh := qr (P := prog) (fb := 0) (rd := false) (body := (pI f7 0)) (ex := .exit 0) (E := gcE (vvA v (fun j => rvl 48 g1V p1z (nst 48 g1E j st)) 5) (nst 48 g1E 5 st).2 (nst 48 g1E 5 st).1) (m := fun y : { i : Nat // i <= 5 } => 5 - y.val) (fun y => gcI (vvA v (fun j => rvl 48 g1V p1z (nst 48 g1E j st)) y.val) (nst 48 g1E y.val st).2 (nst 48 g1E y.val st).1 (y.val : Int)) (by simp) (fun y => ?_) ⟨0, by omega⟩
 ·exact hh
 obtain ⟨i, hi⟩ := y
 by_cases e : i < 5
 ·refine .inl ⟨⟨i + 1, e⟩, by show 5 - (i + 1) < 5 - i; omega, ?_⟩
  have hl := RT st h0 i e
  have e : i = 0 ∨ i = 1 ∨ i = 2 ∨ i = 3 ∨ i = 4 := by omega
  rcases e with rfl | rfl | rfl | rfl | rfl
  ·exact abM (vvA v (fun j => rvl 48 g1V p1z (nst 48 g1E j st)) 0) (nst 48 g1E 0 st) hl
  ·exact abu (vvA v (fun j => rvl 48 g1V p1z (nst 48 g1E j st)) 1) (nst 48 g1E 1 st) hl
  ·exact acz (vvA v (fun j => rvl 48 g1V p1z (nst 48 g1E j st)) 2) (nst 48 g1E 2 st) hl
  ·exact ack (vvA v (fun j => rvl 48 g1V p1z (nst 48 g1E j st)) 3) (nst 48 g1E 3 st) hl
  ·exact abX (vvA v (fun j => rvl 48 g1V p1z (nst 48 g1E j st)) 4) (nst 48 g1E 4 st) hl
 ·have e : i = 5 := by omega
  subst e
  exact .inr (SO _ _ _)
abbrev sV (a : AA) (e : Ex) (b : AA) : Prop := Sound prog 0 false (pI f7 1) a e b
theorem aa7 (v : VT) (sb : LU0) (e : Int) (hl : 48 <= sb.length) (h : (g1E (sb.take 48)) = 0) : sV (gcK v sb 0 0).aa .normal (gcK { v with s0 := (g1V (sb.take 48)) } (sb.drop 48) (g1E (sb.take 48)) 1).aa :=
 tk (os := oL [(175, rO 5 0), (189, rO 5 0), (207, wF)]) (by kernel_rfl) (ai (gcF 0 1 rfl (sb := (sb.drop 48)) (e := (g1E (sb.take 48))) (a := ins v.ch 17 3 (pt1 (g1V (sb.take 48)))) (b := ({ v with s0 := (g1V (sb.take 48)) } : VT).ch) (by kernel_rfl)) (ai (eqz h) (ai (pt hl) (ai (pt hl) tt0))))
theorem YA (v : VT) (sb : LU0) (e : Int) (hl : 48 <= sb.length) (h : (g1E (sb.take 48)) ≠ 0) : sV (gcK v sb 0 0).aa .normal (gcK { v with s0 := (g1V (sb.take 48)) } (sb.drop 48) (g1E (sb.take 48)) 1).aa :=
 tk (os := oL [(175, rO 5 0), (189, rO 5 0), (207, wT)]) (by kernel_rfl) (ai (gcF 0 1 rfl (sb := (sb.drop 48)) (e := (g1E (sb.take 48))) (a := ins v.ch 17 3 (qk)) (b := ({ v with s0 := (g1V (sb.take 48)) } : VT).ch) (by rw [qB h]; kernel_rfl)) (ai (nez h) (ai (pt hl) (ai (pt hl) tt0))))
theorem XO (v : VT) (sb : LU0) (e : Int) (h : e ≠ 0) : sV (gcK v sb e 0).aa .normal (gcK { v with s0 := p1z } sb e 1).aa :=
 tk (os := oL [(168, wT)]) (by kernel_rfl) (ai (gcF 0 1 rfl (sb := sb) (e := e) (a := ins v.ch 17 3 (qk)) (b := ({ v with s0 := p1z } : VT).ch) (by kernel_rfl)) (ai (nez h) tt0))
theorem act (v : VT) (st : Int × LU0) (hl : st.1 = 0 -> 48 <= st.2.length) : sV (gcK v st.2 st.1 0).aa .normal (gcK { v with s0 := rvl 48 g1V p1z st } (rst 48 g1E st).2 (rst 48 g1E st).1 1).aa := by
 obtain ⟨e, sb⟩ := st
 by_cases h : e = 0
 ·subst h
  by_cases h1 : g1E (sb.take 48) = 0
  ·exact aa7 v sb 0 (hl rfl) h1
  ·exact YA v sb 0 (hl rfl) h1
 ·rw [show rst 48 g1E (e, sb) = (e, sb) from if_neg h, show rvl 48 g1V p1z (e, sb) = p1z from if_neg h]
  exact XO v sb e h
theorem ZL (v : VT) (sb : LU0) (e : Int) (hl : 48 <= sb.length) (h : (g1E (sb.take 48)) = 0) : sV (gcK v sb 0 1).aa .normal (gcK { v with s1 := (g1V (sb.take 48)) } (sb.drop 48) (g1E (sb.take 48)) 2).aa :=
 tk (os := oL [(175, rO 5 0), (189, rO 5 0), (207, wF)]) (by kernel_rfl) (ai (gcF 1 2 rfl (sb := (sb.drop 48)) (e := (g1E (sb.take 48))) (a := ins v.ch 20 3 (pt1 (g1V (sb.take 48)))) (b := ({ v with s1 := (g1V (sb.take 48)) } : VT).ch) (by kernel_rfl)) (ai (eqz h) (ai (pt hl) (ai (pt hl) tt0))))
theorem aa6 (v : VT) (sb : LU0) (e : Int) (hl : 48 <= sb.length) (h : (g1E (sb.take 48)) ≠ 0) : sV (gcK v sb 0 1).aa .normal (gcK { v with s1 := (g1V (sb.take 48)) } (sb.drop 48) (g1E (sb.take 48)) 2).aa :=
 tk (os := oL [(175, rO 5 0), (189, rO 5 0), (207, wT)]) (by kernel_rfl) (ai (gcF 1 2 rfl (sb := (sb.drop 48)) (e := (g1E (sb.take 48))) (a := ins v.ch 20 3 (qk)) (b := ({ v with s1 := (g1V (sb.take 48)) } : VT).ch) (by rw [qB h]; kernel_rfl)) (ai (nez h) (ai (pt hl) (ai (pt hl) tt0))))
theorem aa9 (v : VT) (sb : LU0) (e : Int) (h : e ≠ 0) : sV (gcK v sb e 1).aa .normal (gcK { v with s1 := p1z } sb e 2).aa :=
 tk (os := oL [(168, wT)]) (by kernel_rfl) (ai (gcF 1 2 rfl (sb := sb) (e := e) (a := ins v.ch 20 3 (qk)) (b := ({ v with s1 := p1z } : VT).ch) (by kernel_rfl)) (ai (nez h) tt0))
theorem abv (v : VT) (st : Int × LU0) (hl : st.1 = 0 -> 48 <= st.2.length) : sV (gcK v st.2 st.1 1).aa .normal (gcK { v with s1 := rvl 48 g1V p1z st } (rst 48 g1E st).2 (rst 48 g1E st).1 2).aa := by
 obtain ⟨e, sb⟩ := st
 by_cases h : e = 0
 ·subst h
  by_cases h1 : g1E (sb.take 48) = 0
  ·exact ZL v sb 0 (hl rfl) h1
  ·exact aa6 v sb 0 (hl rfl) h1
 ·rw [show rst 48 g1E (e, sb) = (e, sb) from if_neg h, show rvl 48 g1V p1z (e, sb) = p1z from if_neg h]
  exact aa9 v sb e h
theorem aaF (v : VT) (sb : LU0) (e : Int) (hl : 48 <= sb.length) (h : (g1E (sb.take 48)) = 0) : sV (gcK v sb 0 2).aa .normal (gcK { v with s2 := (g1V (sb.take 48)) } (sb.drop 48) (g1E (sb.take 48)) 3).aa :=
 tk (os := oL [(175, rO 5 0), (189, rO 5 0), (207, wF)]) (by kernel_rfl) (ai (gcF 2 3 rfl (sb := (sb.drop 48)) (e := (g1E (sb.take 48))) (a := ins v.ch 23 3 (pt1 (g1V (sb.take 48)))) (b := ({ v with s2 := (g1V (sb.take 48)) } : VT).ch) (by kernel_rfl)) (ai (eqz h) (ai (pt hl) (ai (pt hl) tt0))))
theorem aa3 (v : VT) (sb : LU0) (e : Int) (hl : 48 <= sb.length) (h : (g1E (sb.take 48)) ≠ 0) : sV (gcK v sb 0 2).aa .normal (gcK { v with s2 := (g1V (sb.take 48)) } (sb.drop 48) (g1E (sb.take 48)) 3).aa :=
 tk (os := oL [(175, rO 5 0), (189, rO 5 0), (207, wT)]) (by kernel_rfl) (ai (gcF 2 3 rfl (sb := (sb.drop 48)) (e := (g1E (sb.take 48))) (a := ins v.ch 23 3 (qk)) (b := ({ v with s2 := (g1V (sb.take 48)) } : VT).ch) (by rw [qB h]; kernel_rfl)) (ai (nez h) (ai (pt hl) (ai (pt hl) tt0))))
theorem aaC (v : VT) (sb : LU0) (e : Int) (h : e ≠ 0) : sV (gcK v sb e 2).aa .normal (gcK { v with s2 := p1z } sb e 3).aa :=
 tk (os := oL [(168, wT)]) (by kernel_rfl) (ai (gcF 2 3 rfl (sb := sb) (e := e) (a := ins v.ch 23 3 (qk)) (b := ({ v with s2 := p1z } : VT).ch) (by kernel_rfl)) (ai (nez h) tt0))
theorem acS (v : VT) (st : Int × LU0) (hl : st.1 = 0 -> 48 <= st.2.length) : sV (gcK v st.2 st.1 2).aa .normal (gcK { v with s2 := rvl 48 g1V p1z st } (rst 48 g1E st).2 (rst 48 g1E st).1 3).aa := by
 obtain ⟨e, sb⟩ := st
 by_cases h : e = 0
 ·subst h
  by_cases h1 : g1E (sb.take 48) = 0
  ·exact aaF v sb 0 (hl rfl) h1
  ·exact aa3 v sb 0 (hl rfl) h1
 ·rw [show rst 48 g1E (e, sb) = (e, sb) from if_neg h, show rvl 48 g1V p1z (e, sb) = p1z from if_neg h]
  exact aaC v sb e h
def vvB (v : VT) (V : Nat -> A1) (i : Nat) : VT := { v with s0 := if 0 < i then V 0 else v.s0, s1 := if 1 < i then V 1 else v.s1, s2 := if 2 < i then V 2 else v.s2 }
theorem SM (v : VT) (sb : LU0) (e : Int) : sV (gcK v sb e 3).aa (.exit 2) (gcE v sb e).aa :=
 C9 [] 156 [2, 4, 6] [0, 23, 36] trivial
theorem Sf (st : Int × LU0) (h0 : st.1 = 0 -> 144 <= st.2.length) (i : Nat) (hi : i < 3) : (nst 48 g1E i st).1 = 0 -> 48 <= (nst 48 g1E i st).2.length := by
 intro h
 obtain ⟨h1, h2, _⟩ := p7 i st h
 rw [h2]
 show 48 <= (st.2.drop (48 * i)).length
 have := h0 h1
 rw [List.length_drop]
 omega
theorem w6 (v : VT) (st : Int × LU0) (h0 : st.1 = 0 -> 144 <= st.2.length) : Sound prog 0 false (.loop (pI f7 1)) (gcK (vvB v (fun j => rvl 48 g1V p1z (nst 48 g1E j st)) 0) st.2 st.1 0).aa (.exit 2) (gcE (vvB v (fun j => rvl 48 g1V p1z (nst 48 g1E j st)) 3) (nst 48 g1E 3 st).2 (nst 48 g1E 3 st).1).aa := by
 have hh := qr (P := prog) (fb := 0) (rd := false) (body := (pI f7 1)) (ex := .exit 2) (E := gcE (vvB v (fun j => rvl 48 g1V p1z (nst 48 g1E j st)) 3) (nst 48 g1E 3 st).2 (nst 48 g1E 3 st).1) (m := fun y : { i : Nat // i <= 3 } => 3 - y.val) (fun y => gcK (vvB v (fun j => rvl 48 g1V p1z (nst 48 g1E j st)) y.val) (nst 48 g1E y.val st).2 (nst 48 g1E y.val st).1 (y.val : Int)) (by simp) (fun y => ?_) ⟨0, by omega⟩
 ·exact hh
 obtain ⟨i, hi⟩ := y
 by_cases e : i < 3
 ·refine .inl ⟨⟨i + 1, e⟩, by show 3 - (i + 1) < 3 - i; omega, ?_⟩
  have hl := Sf st h0 i e
  have e : i = 0 ∨ i = 1 ∨ i = 2 := by omega
  rcases e with rfl | rfl | rfl
  ·exact act (vvB v (fun j => rvl 48 g1V p1z (nst 48 g1E j st)) 0) (nst 48 g1E 0 st) hl
  ·exact abv (vvB v (fun j => rvl 48 g1V p1z (nst 48 g1E j st)) 1) (nst 48 g1E 1 st) hl
  ·exact acS (vvB v (fun j => rvl 48 g1V p1z (nst 48 g1E j st)) 2) (nst 48 g1E 2 st) hl
 ·have e : i = 3 := by omega
  subst e
  exact .inr (SM _ _ _)
end Go.Proofs.YtokjhbmmdmeafaaGreat
set_option linter.unusedSimpArgs false
set_option linter.unusedVariables false
namespace Go.Proofs.YtokjhbmmdmeafaaGreat
open Go.Ev Go.RowKit
open Tryz
def vt0 (a b : Int) : VT := ⟨a, b, p1z, p1z, p1z, p1z, p1z, p1z, p1z, p1z, p2z⟩
theorem WR (V : Nat -> A1) (a b : Int) : flat ([ci0 a, ci0 b] ++ zvL) = flat (vvA (vt0 a b) V 0).ch := by kernel_rfl
def Ok (sb : LU0) (a b : Int) : LState := { n := 53, sl := [(2, .p 0 0), (4, .p 23 0), (6, .p 36 0), (21, vi0 0)], hp := [(0, .own u7 41), (23, .own [.c (.string (ofL sb)), ci0 0] 85), (36, .own ([ci0 a, ci0 b] ++ zvL) 41)] }
def PC (sb : LU0) : LState := { n := 53, sl := [(2, .p 0 0), (4, .p 23 0), (6, .p 48 0), (21, vi0 0)], hp := [(0, .own u7 41), (23, .own [.c (.string (ofL sb)), ci0 3] 85), (48, .own ([ci0 0, ci0 0] ++ zvL) 41)] }
def Ib : LState := { n := 53, sl := [(2, .p 0 0), (4, .p 19 0), (6, .p 39 0), (21, vi0 0)], hp := [(0, .own u7 41), (19, .own [.c (.string (ofL [])), ci0 80] 85), (39, .own ([ci0 0, ci0 0] ++ zvL) 41)] }
theorem AE (sb : LU0) (a b : Int) : qA (Ok sb a b).aa (gcI (vvA (vt0 a b) (fun j => rvl 48 g1V p1z (nst 48 g1E j (0, sb))) 0) sb 0 0) [] := by
 have e : qA (Ok sb a b).aa (gcI (vvA (vt0 a b) (fun j => rvl 48 g1V p1z (nst 48 g1E j (0, sb))) 0) sb 0 0) [] = (((qs 0) /\ (qs 0) /\ (qs 0) /\ (yi (.int .i64 0)) /\ True) /\ ((sH 41 u7) /\ (sH 85 [.c (.string (ofL sb)), ci0 0]) /\ (41 = 41 /\ flat ([ci0 a, ci0 b] ++ zvL) = flat (vvA (vt0 a b) (fun j => rvl 48 g1V p1z (nst 48 g1E j (0, sb))) 0).ch) /\ True)) := by kernel_rfl
 rw [e]
 exact ⟨⟨rr0, rr0, rr0, rfl, tt0⟩, rr0, rr0, ⟨rfl, WR _ _ _⟩, tt0⟩
theorem Qq (sb : LU0) : qA (PC sb).aa (gcI (vvA (vt0 0 0) (fun j => rvl 48 g1V p1z (nst 48 g1E j (3, sb))) 0) sb 3 0) [(36, 48)] := by
 have e : qA (PC sb).aa (gcI (vvA (vt0 0 0) (fun j => rvl 48 g1V p1z (nst 48 g1E j (3, sb))) 0) sb 3 0) [(36, 48)] = (((qs 0) /\ (qs 0) /\ (qs 0) /\ (yi (.int .i64 0)) /\ True) /\ ((sH 41 u7) /\ (sH 85 [.c (.string (ofL sb)), ci0 3]) /\ (41 = 41 /\ flat ([ci0 0, ci0 0] ++ zvL) = flat (vvA (vt0 0 0) (fun j => rvl 48 g1V p1z (nst 48 g1E j (3, sb))) 0).ch) /\ True)) := by kernel_rfl
 rw [e]
 exact ⟨⟨rr0, rr0, rr0, rfl, tt0⟩, rr0, rr0, ⟨rfl, WR _ _ _⟩, tt0⟩
theorem Fh : qA (Ib).aa (gcI (vvA (vt0 0 0) (fun j => rvl 48 g1V p1z (nst 48 g1E j (80, []))) 0) [] 80 0) [(23, 19), (36, 39)] := by
 have e : qA (Ib).aa (gcI (vvA (vt0 0 0) (fun j => rvl 48 g1V p1z (nst 48 g1E j (80, []))) 0) [] 80 0) [(23, 19), (36, 39)] = (((qs 0) /\ (qs 0) /\ (qs 0) /\ (yi (.int .i64 0)) /\ True) /\ ((sH 41 u7) /\ (85 = 85 /\ flat [.c (.string (ofL [])), ci0 80] = flat [.c (.string (ofL [])), ci0 80]) /\ (41 = 41 /\ flat ([ci0 0, ci0 0] ++ zvL) = flat (vvA (vt0 0 0) (fun j => rvl 48 g1V p1z (nst 48 g1E j (80, []))) 0).ch) /\ True)) := by kernel_rfl
 rw [e]
 exact ⟨⟨rr0, rr0, rr0, rfl, tt0⟩, rr0, rr0, ⟨rfl, WR _ _ _⟩, tt0⟩
def gcX (sb : LU0) (e : Int) : LState := { n := 53, sl := [(2, .p 0 0), (4, .p 23 0)], hp := [(0, .own u7 41), (23, .own [.c (.string (ofL sb)), ci0 e] 85)] }
def gcY (e : Int) : LState := { n := 53, sl := [(2, .p 0 0), (3, vi0 e)], hp := [(0, .own u7 41)] }
theorem uV (sb : LU0) (e : Int) : Sound prog 0 false (Ay f7 0) (gcX sb e).aa .normal (gcY e).aa := by
 have hL : True /\ (some (gcY e) = some (gcY e)) := ⟨tt0, rfl⟩
 exact p9 (P := prog) (X := pC _) (env := []) trivial (qW (P := prog) (X := pC _) (env := []) (os := oL []) trivial 0) (os := oL []) (fb := 0) (k := 62) (I := gcX sb e) (E := gcY e) (by kernel_rfl) (ai (ai (ai (ai (ai (ai (ai hL tt0) tt0) (ai (ai (ai hL tt0) tt0) tt0)) (ai (ai (ai (ai hL tt0) tt0) tt0) tt0)) (ai (ai (ai (ai (ai hL tt0) tt0) tt0) tt0) tt0)) (ai (ai (ai (ai (ai (ai hL tt0) tt0) tt0) tt0) tt0) tt0)) (ai (ai (ai (ai (ai (ai (ai hL tt0) tt0) (ai (ai (ai hL tt0) tt0) tt0)) (ai (ai (ai (ai hL tt0) tt0) tt0) tt0)) (ai (ai (ai (ai (ai hL tt0) tt0) tt0) tt0) tt0)) (ai (ai (ai (ai (ai (ai hL tt0) tt0) (ai (ai (ai hL tt0) tt0) tt0)) (ai (ai (ai (ai hL tt0) tt0) tt0) tt0)) (ai (ai (ai (ai (ai hL tt0) tt0) (ai (ai (ai hL tt0) tt0) tt0)) (ai (ai (ai (ai hL tt0) tt0) tt0) tt0)) tt0)) tt0)) tt0))
theorem BT (st : Int × LU0) (h0 : st.1 = 0 -> 480 <= st.2.length) : (nst 48 g1E 5 st).1 = 0 -> 144 <= (nst 48 g1E 5 st).2.length := by
 intro h
 obtain ⟨h1, h2, _⟩ := p7 5 st h
 rw [h2]
 show 144 <= (st.2.drop (48 * 5)).length
 have := h0 h1
 rw [List.length_drop]
 omega
def qh (st : Int × LU0) : Int × LU0 := nst 48 g1E 3 (nst 48 g1E 5 st)
def K9 (a b : Int) (st : Int × LU0) : VT := vvB (vvA (vt0 a b) (fun j => rvl 48 g1V p1z (nst 48 g1E j st)) 5) (fun j => rvl 48 g1V p1z (nst 48 g1E j (nst 48 g1E 5 st))) 3
theorem yk {st : Int × LU0} (h : st.1 ≠ 0) : qh st = st := by
 unfold qh; rw [si h, si h]
abbrev yD (l : LU0) := ((l.drop 4).drop 1).drop 1
abbrev Hn (l : LU0) := ((l.drop 4).drop 1).take 1
abbrev BX (l : LU0) := ((cn (Hn l) 0 : Nat) : Int)
abbrev BZ (l : LU0) := ((cn ((l.drop 4).take 1) 0 : Nat) : Int)
abbrev CC (l : LU0) := vvA (vt0 (BZ l) (BX l)) (fun j => rvl 48 g1V p1z (nst 48 g1E j (0, (yD l)))) 5
abbrev v9 (l : LU0) := nst 48 g1E 5 (0, (yD l))
abbrev tc (l : LU0) := qh (0, (yD l))
def Dy {l : LU0} (hm : l.take 4 = mgV) := PLift.up (show (!((ofL (l.take 4)).toList == (ofL mgV).toList)) = false from by rw [hm]; simp)
def VH (l : LU0) : Nat × Ora := (156, lpO { I := Ok (yD l) (BZ l) (BX l), ex := .exit 0, E := gcE (CC l) (v9 l).2 (v9 l).1, fr := 157 })
def G4 (l : LU0) := PLift.up (show some (gcK (CC l) (v9 l).2 (v9 l).1 0) = some (gcK (CC l) (v9 l).2 (v9 l).1 0) from rfl)
def F9 (l : LU0) := PLift.up (show some (Ok (yD l) (BZ l) (BX l)) = some (Ok (yD l) (BZ l) (BX l)) from rfl)
def Qa (l : LU0) : Nat × Ora := (158, lpO { I := gcK (CC l) (v9 l).2 (v9 l).1 0, ex := .exit 2, E := gcE (K9 (BZ l) (BX l) (0, (yD l))) (tc l).2 0, fr := 159 })
abbrev zr (l : LU0) : List XV := [.t (.v (.string (ofL l)))]
def HU (l : LU0) : LO0 := [(6, { ch := 1, hi := fun _ => 486 }), (14, rO 5 0), (16, wF), (21, rO 5 0), (32, { ch := 1, hi := fun _ => 482 }), (53, rO 5 0), (58, rO 1 (cn ((l.drop 4).take 1) 0)), (59, { ch := 1, hi := fun _ => cn ((l.drop 4).take 1) 0 }), (73, rO 5 0), (112, rO 5 0), (117, rO 1 (cn (Hn l) 0)), (118, { ch := 1, hi := fun _ => cn (Hn l) 0 }), (132, rO 5 0), (VH l)]
theorem zm {a : List XV} {r : AV} {b : Prop} (o : LO0) (hb : b) (h : fnA prog (pC _) [qD, q8] 3 (oL o) f7 a = some (r, b) := by kernel_rfl) (hv : ∃ v, r.val? = some v := by exact ⟨_, rfl⟩) : Gives prog 7 a r := pz (P := prog) (X := pC _) (env := [qD, q8]) ⟨qf, qo, tt0⟩ func7 3 (oL o) h hv hb
theorem WW (l : LU0) (hn : l.length = 486) (hm : l.take 4 = mgV) (h8 : qh (0, (((l.drop 4).drop 1).drop 1)) = (0, (qh (0, (((l.drop 4).drop 1).drop 1))).2)) (h : g2E ((qh (0, (((l.drop 4).drop 1).drop 1))).2.take 96) = 0) : Gives prog 7 (zr l) (.tp [.ag ({ (K9 ((cn ((l.drop 4).take 1) 0 : Nat) : Int) ((cn (((l.drop 4).drop 1).take 1) 0 : Nat) : Int) (0, (((l.drop 4).drop 1).drop 1))) with b := g2V ((qh (0, (((l.drop 4).drop 1).drop 1))).2.take 96) } : VT).ch, vi0 0]) := by
 have h0 : ((0, (((l.drop 4).drop 1).drop 1)) : Int × LU0).1 = 0 -> 480 <= ((0, (((l.drop 4).drop 1).drop 1)) : Int × LU0).2.length := fun _ => by show 480 <= (((l.drop 4).drop 1).drop 1).length; simp only [List.length_drop]; omega
 have hR : 96 <= (qh (0, (((l.drop 4).drop 1).drop 1))).2.length := by
  obtain ⟨h5, h6, _⟩ := p7 3 (nst 48 g1E 5 (0, (((l.drop 4).drop 1).drop 1))) (by rw [show nst 48 g1E 3 (nst 48 g1E 5 (0, (((l.drop 4).drop 1).drop 1))) = qh (0, (((l.drop 4).drop 1).drop 1)) from rfl, h8])
  obtain ⟨_, h7, _⟩ := p7 5 (0, (((l.drop 4).drop 1).drop 1)) h5
  rw [show qh (0, (((l.drop 4).drop 1).drop 1)) = nst 48 g1E 3 (nst 48 g1E 5 (0, (((l.drop 4).drop 1).drop 1))) from rfl, h6, h7]
  show 96 <= (((((l.drop 4).drop 1).drop 1).drop (48 * 5)).drop (48 * 3)).length
  simp only [List.length_drop]
  omega
 exact zm ((HU l) ++ [(Qa l), (174, rO 5 0), (188, rO 5 0), (206, wF), (215, wF)]) (ai (show (g2E ((qh (0, (((l.drop 4).drop 1).drop 1))).2.take 96) != 0) = false from by rw [h]; rfl) (ai (show (g2E ((qh (0, (((l.drop 4).drop 1).drop 1))).2.take 96) != 0) = false from by rw [h]; rfl) (ai (show (0 : Int) <= 96 /\ (96 : Int) <= (ofL (qh (0, (((l.drop 4).drop 1).drop 1))).2).size from ⟨by decide, by show (96 : Int) <= ((qh (0, (((l.drop 4).drop 1).drop 1))).2.length : Nat); omega⟩) (ai (show (0 : Int) <= 96 /\ (96 : Int) <= (ofL (qh (0, (((l.drop 4).drop 1).drop 1))).2).size from ⟨by decide, by show (96 : Int) <= ((qh (0, (((l.drop 4).drop 1).drop 1))).2.length : Nat); omega⟩) (ai (G4 l).down (ai ((by have hh := w6 (vvA (vt0 ((cn ((l.drop 4).take 1) 0 : Nat) : Int) ((cn (((l.drop 4).drop 1).take 1) 0 : Nat) : Int)) (fun j => rvl 48 g1V p1z (nst 48 g1E j (0, (((l.drop 4).drop 1).drop 1)))) 5) (nst 48 g1E 5 (0, (((l.drop 4).drop 1).drop 1))) (BT (0, (((l.drop 4).drop 1).drop 1)) h0); rw [show nst 48 g1E 3 (nst 48 g1E 5 (0, (((l.drop 4).drop 1).drop 1))) = qh (0, (((l.drop 4).drop 1).drop 1)) from rfl, h8] at hh; exact hh)) (ai (F9 l).down (ai (((xh (vt0 ((cn ((l.drop 4).take 1) 0 : Nat) : Int) ((cn (((l.drop 4).drop 1).take 1) 0 : Nat) : Int)) (0, (((l.drop 4).drop 1).drop 1)) (fun h => by have := h0 h; omega)).pre [] (by kernel_rfl) (AE (((l.drop 4).drop 1).drop 1) ((cn ((l.drop 4).take 1) 0 : Nat) : Int) ((cn (((l.drop 4).drop 1).take 1) 0 : Nat) : Int)))) (ai (show (0 : Int) <= 1 /\ (1 : Int) <= (ofL ((l.drop 4).drop 1)).size from ⟨by decide, by show (1 : Int) <= (((l.drop 4).drop 1).length : Nat); rw [List.length_drop, List.length_drop]; omega⟩) (ai (show IntKind.i64.wrap ((cn (((l.drop 4).drop 1).take 1) 0 : Nat) : Int) = ((cn (((l.drop 4).drop 1).take 1) 0 : Nat) : Int) from py (by have := pA (((l.drop 4).drop 1).take 1) 0; omega)) (ai (show (0 : Int) <= 0 /\ (0 : Int) < (ofL (((l.drop 4).drop 1).take 1)).size /\ ((ofL (((l.drop 4).drop 1).take 1))[(0 : Int).toNat]?.getD 0).toNat = cn (((l.drop 4).drop 1).take 1) 0 from tR (((l.drop 4).drop 1).take 1) 0 (by rw [List.length_take]; simp only [List.length_drop]; omega)) (ai (show (0 : Int) <= 1 /\ (1 : Int) <= (ofL ((l.drop 4).drop 1)).size from ⟨by decide, by show (1 : Int) <= (((l.drop 4).drop 1).length : Nat); rw [List.length_drop, List.length_drop]; omega⟩) (ai (show (0 : Int) <= 1 /\ (1 : Int) <= (ofL (l.drop 4)).size from ⟨by decide, by show (1 : Int) <= ((l.drop 4).length : Nat); rw [List.length_drop]; omega⟩) (ai (show IntKind.i64.wrap ((cn ((l.drop 4).take 1) 0 : Nat) : Int) = ((cn ((l.drop 4).take 1) 0 : Nat) : Int) from py (by have := pA ((l.drop 4).take 1) 0; omega)) (ai (show (0 : Int) <= 0 /\ (0 : Int) < (ofL ((l.drop 4).take 1)).size /\ ((ofL ((l.drop 4).take 1))[(0 : Int).toNat]?.getD 0).toNat = cn ((l.drop 4).take 1) 0 from tR ((l.drop 4).take 1) 0 (by rw [List.length_take]; simp only [List.length_drop]; omega)) (ai (show (0 : Int) <= 1 /\ (1 : Int) <= (ofL (l.drop 4)).size from ⟨by decide, by show (1 : Int) <= ((l.drop 4).length : Nat); rw [List.length_drop]; omega⟩) (ai (show (((ofL (l.drop 4)).size : Nat) : Int) = ((482 : Nat) : Int) from by show (((l.drop 4).length : Nat) : Int) = _; rw [List.length_drop, hn]) (ai (show (0 : Int) <= 4 /\ (4 : Int) <= (ofL l).size from ⟨by decide, by show (4 : Int) <= ((l).length : Nat); omega⟩) (ai (Dy hm).down (ai (show (0 : Int) <= 4 /\ (4 : Int) <= (ofL l).size from ⟨by decide, by show (4 : Int) <= ((l).length : Nat); omega⟩) (ai (show (((ofL l).size : Nat) : Int) = ((486 : Nat) : Int) from by show ((l.length : Nat) : Int) = _; rw [hn]) tt0)))))))))))))))))))))
abbrev Bh (l : LU0) := g2E ((tc l).2.take 96)
theorem U3 (l : LU0) (hn : l.length = 486) (hm : l.take 4 = mgV) (h8 : qh (0, (((l.drop 4).drop 1).drop 1)) = (0, (qh (0, (((l.drop 4).drop 1).drop 1))).2)) (h : g2E ((qh (0, (((l.drop 4).drop 1).drop 1))).2.take 96) ≠ 0) : Gives prog 7 (zr l) (.tp [.ag u7, vi0 (g2E ((qh (0, (((l.drop 4).drop 1).drop 1))).2.take 96))]) := by
 have h0 : ((0, (((l.drop 4).drop 1).drop 1)) : Int × LU0).1 = 0 -> 480 <= ((0, (((l.drop 4).drop 1).drop 1)) : Int × LU0).2.length := fun _ => by show 480 <= (((l.drop 4).drop 1).drop 1).length; simp only [List.length_drop]; omega
 have hR : 96 <= (qh (0, (((l.drop 4).drop 1).drop 1))).2.length := by
  obtain ⟨h5, h6, _⟩ := p7 3 (nst 48 g1E 5 (0, (((l.drop 4).drop 1).drop 1))) (by rw [show nst 48 g1E 3 (nst 48 g1E 5 (0, (((l.drop 4).drop 1).drop 1))) = qh (0, (((l.drop 4).drop 1).drop 1)) from rfl, h8])
  obtain ⟨_, h7, _⟩ := p7 5 (0, (((l.drop 4).drop 1).drop 1)) h5
  rw [show qh (0, (((l.drop 4).drop 1).drop 1)) = nst 48 g1E 3 (nst 48 g1E 5 (0, (((l.drop 4).drop 1).drop 1))) from rfl, h6, h7]
  show 96 <= (((((l.drop 4).drop 1).drop 1).drop (48 * 5)).drop (48 * 3)).length
  simp only [List.length_drop]
  omega
 exact zm ((HU l) ++ [(Qa l), (174, rO 5 0), (188, rO 5 0), (206, wT), (215, wT), (216, lpO { kd := 5, I := gcX ((tc l).2.drop 96) (Bh l), ex := .normal, E := gcY (Bh l), fr := 223 })]) (ai (show some (gcX ((tc l).2.drop 96) (Bh l)) = some (gcX ((tc l).2.drop 96) (Bh l)) from rfl) (ai (uV ((tc l).2.drop 96) (Bh l)) (ai (show (g2E ((qh (0, (((l.drop 4).drop 1).drop 1))).2.take 96) != 0) = true from by simpa using h) (ai (show (g2E ((qh (0, (((l.drop 4).drop 1).drop 1))).2.take 96) != 0) = true from by simpa using h) (ai (show (0 : Int) <= 96 /\ (96 : Int) <= (ofL (qh (0, (((l.drop 4).drop 1).drop 1))).2).size from ⟨by decide, by show (96 : Int) <= ((qh (0, (((l.drop 4).drop 1).drop 1))).2.length : Nat); omega⟩) (ai (show (0 : Int) <= 96 /\ (96 : Int) <= (ofL (qh (0, (((l.drop 4).drop 1).drop 1))).2).size from ⟨by decide, by show (96 : Int) <= ((qh (0, (((l.drop 4).drop 1).drop 1))).2.length : Nat); omega⟩) (ai (G4 l).down (ai ((by have hh := w6 (vvA (vt0 ((cn ((l.drop 4).take 1) 0 : Nat) : Int) ((cn (((l.drop 4).drop 1).take 1) 0 : Nat) : Int)) (fun j => rvl 48 g1V p1z (nst 48 g1E j (0, (((l.drop 4).drop 1).drop 1)))) 5) (nst 48 g1E 5 (0, (((l.drop 4).drop 1).drop 1))) (BT (0, (((l.drop 4).drop 1).drop 1)) h0); rw [show nst 48 g1E 3 (nst 48 g1E 5 (0, (((l.drop 4).drop 1).drop 1))) = qh (0, (((l.drop 4).drop 1).drop 1)) from rfl, h8] at hh; exact hh)) (ai (F9 l).down (ai (((xh (vt0 ((cn ((l.drop 4).take 1) 0 : Nat) : Int) ((cn (((l.drop 4).drop 1).take 1) 0 : Nat) : Int)) (0, (((l.drop 4).drop 1).drop 1)) (fun h => by have := h0 h; omega)).pre [] (by kernel_rfl) (AE (((l.drop 4).drop 1).drop 1) ((cn ((l.drop 4).take 1) 0 : Nat) : Int) ((cn (((l.drop 4).drop 1).take 1) 0 : Nat) : Int)))) (ai (show (0 : Int) <= 1 /\ (1 : Int) <= (ofL ((l.drop 4).drop 1)).size from ⟨by decide, by show (1 : Int) <= (((l.drop 4).drop 1).length : Nat); rw [List.length_drop, List.length_drop]; omega⟩) (ai (show IntKind.i64.wrap ((cn (((l.drop 4).drop 1).take 1) 0 : Nat) : Int) = ((cn (((l.drop 4).drop 1).take 1) 0 : Nat) : Int) from py (by have := pA (((l.drop 4).drop 1).take 1) 0; omega)) (ai (show (0 : Int) <= 0 /\ (0 : Int) < (ofL (((l.drop 4).drop 1).take 1)).size /\ ((ofL (((l.drop 4).drop 1).take 1))[(0 : Int).toNat]?.getD 0).toNat = cn (((l.drop 4).drop 1).take 1) 0 from tR (((l.drop 4).drop 1).take 1) 0 (by rw [List.length_take]; simp only [List.length_drop]; omega)) (ai (show (0 : Int) <= 1 /\ (1 : Int) <= (ofL ((l.drop 4).drop 1)).size from ⟨by decide, by show (1 : Int) <= (((l.drop 4).drop 1).length : Nat); rw [List.length_drop, List.length_drop]; omega⟩) (ai (show (0 : Int) <= 1 /\ (1 : Int) <= (ofL (l.drop 4)).size from ⟨by decide, by show (1 : Int) <= ((l.drop 4).length : Nat); rw [List.length_drop]; omega⟩) (ai (show IntKind.i64.wrap ((cn ((l.drop 4).take 1) 0 : Nat) : Int) = ((cn ((l.drop 4).take 1) 0 : Nat) : Int) from py (by have := pA ((l.drop 4).take 1) 0; omega)) (ai (show (0 : Int) <= 0 /\ (0 : Int) < (ofL ((l.drop 4).take 1)).size /\ ((ofL ((l.drop 4).take 1))[(0 : Int).toNat]?.getD 0).toNat = cn ((l.drop 4).take 1) 0 from tR ((l.drop 4).take 1) 0 (by rw [List.length_take]; simp only [List.length_drop]; omega)) (ai (show (0 : Int) <= 1 /\ (1 : Int) <= (ofL (l.drop 4)).size from ⟨by decide, by show (1 : Int) <= ((l.drop 4).length : Nat); rw [List.length_drop]; omega⟩) (ai (show (((ofL (l.drop 4)).size : Nat) : Int) = ((482 : Nat) : Int) from by show (((l.drop 4).length : Nat) : Int) = _; rw [List.length_drop, hn]) (ai (show (0 : Int) <= 4 /\ (4 : Int) <= (ofL l).size from ⟨by decide, by show (4 : Int) <= ((l).length : Nat); omega⟩) (ai (Dy hm).down (ai (show (0 : Int) <= 4 /\ (4 : Int) <= (ofL l).size from ⟨by decide, by show (4 : Int) <= ((l).length : Nat); omega⟩) (ai (show (((ofL l).size : Nat) : Int) = ((486 : Nat) : Int) from by show ((l.length : Nat) : Int) = _; rw [hn]) tt0)))))))))))))))))))))))
theorem VJ (l : LU0) (hn : l.length = 486) (hm : l.take 4 = mgV) (h : (qh (0, (((l.drop 4).drop 1).drop 1))).1 ≠ 0) : Gives prog 7 (zr l) (.tp [.ag u7, vi0 (qh (0, (((l.drop 4).drop 1).drop 1))).1]) := by
 have h0 : ((0, (((l.drop 4).drop 1).drop 1)) : Int × LU0).1 = 0 -> 480 <= ((0, (((l.drop 4).drop 1).drop 1)) : Int × LU0).2.length := fun _ => by show 480 <= (((l.drop 4).drop 1).drop 1).length; simp only [List.length_drop]; omega
 exact zm ((HU l) ++ [(158, lpO { I := gcK (CC l) (v9 l).2 (v9 l).1 0, ex := .exit 2, E := gcE (K9 (BZ l) (BX l) (0, (yD l))) (tc l).2 (tc l).1, fr := 159 }), (167, wT), (176, wT), (177, lpO { kd := 5, I := gcX (tc l).2 (tc l).1, ex := .normal, E := gcY (tc l).1, fr := 184 })]) (ai (show some (gcX (tc l).2 (tc l).1) = some (gcX (tc l).2 (tc l).1) from rfl) (ai (uV (tc l).2 (tc l).1) (ai (show ((qh (0, (((l.drop 4).drop 1).drop 1))).1 != 0) = true from by simpa using h) (ai (show ((qh (0, (((l.drop 4).drop 1).drop 1))).1 != 0) = true from by simpa using h) (ai (G4 l).down (ai (w6 (CC l) (v9 l) (BT (0, (yD l)) h0)) (ai (F9 l).down (ai (((xh (vt0 ((cn ((l.drop 4).take 1) 0 : Nat) : Int) ((cn (((l.drop 4).drop 1).take 1) 0 : Nat) : Int)) (0, (((l.drop 4).drop 1).drop 1)) (fun h => by have := h0 h; omega)).pre [] (by kernel_rfl) (AE (((l.drop 4).drop 1).drop 1) ((cn ((l.drop 4).take 1) 0 : Nat) : Int) ((cn (((l.drop 4).drop 1).take 1) 0 : Nat) : Int)))) (ai (show (0 : Int) <= 1 /\ (1 : Int) <= (ofL ((l.drop 4).drop 1)).size from ⟨by decide, by show (1 : Int) <= (((l.drop 4).drop 1).length : Nat); rw [List.length_drop, List.length_drop]; omega⟩) (ai (show IntKind.i64.wrap ((cn (((l.drop 4).drop 1).take 1) 0 : Nat) : Int) = ((cn (((l.drop 4).drop 1).take 1) 0 : Nat) : Int) from py (by have := pA (((l.drop 4).drop 1).take 1) 0; omega)) (ai (show (0 : Int) <= 0 /\ (0 : Int) < (ofL (((l.drop 4).drop 1).take 1)).size /\ ((ofL (((l.drop 4).drop 1).take 1))[(0 : Int).toNat]?.getD 0).toNat = cn (((l.drop 4).drop 1).take 1) 0 from tR (((l.drop 4).drop 1).take 1) 0 (by rw [List.length_take]; simp only [List.length_drop]; omega)) (ai (show (0 : Int) <= 1 /\ (1 : Int) <= (ofL ((l.drop 4).drop 1)).size from ⟨by decide, by show (1 : Int) <= (((l.drop 4).drop 1).length : Nat); rw [List.length_drop, List.length_drop]; omega⟩) (ai (show (0 : Int) <= 1 /\ (1 : Int) <= (ofL (l.drop 4)).size from ⟨by decide, by show (1 : Int) <= ((l.drop 4).length : Nat); rw [List.length_drop]; omega⟩) (ai (show IntKind.i64.wrap ((cn ((l.drop 4).take 1) 0 : Nat) : Int) = ((cn ((l.drop 4).take 1) 0 : Nat) : Int) from py (by have := pA ((l.drop 4).take 1) 0; omega)) (ai (show (0 : Int) <= 0 /\ (0 : Int) < (ofL ((l.drop 4).take 1)).size /\ ((ofL ((l.drop 4).take 1))[(0 : Int).toNat]?.getD 0).toNat = cn ((l.drop 4).take 1) 0 from tR ((l.drop 4).take 1) 0 (by rw [List.length_take]; simp only [List.length_drop]; omega)) (ai (show (0 : Int) <= 1 /\ (1 : Int) <= (ofL (l.drop 4)).size from ⟨by decide, by show (1 : Int) <= ((l.drop 4).length : Nat); rw [List.length_drop]; omega⟩) (ai (show (((ofL (l.drop 4)).size : Nat) : Int) = ((482 : Nat) : Int) from by show (((l.drop 4).length : Nat) : Int) = _; rw [List.length_drop, hn]) (ai (show (0 : Int) <= 4 /\ (4 : Int) <= (ofL l).size from ⟨by decide, by show (4 : Int) <= ((l).length : Nat); omega⟩) (ai (Dy hm).down (ai (show (0 : Int) <= 4 /\ (4 : Int) <= (ofL l).size from ⟨by decide, by show (4 : Int) <= ((l).length : Nat); omega⟩) (ai (show (((ofL l).size : Nat) : Int) = ((486 : Nat) : Int) from by show ((l.length : Nat) : Int) = _; rw [hn]) tt0)))))))))))))))))))))
abbrev A3 (l : LU0) := vvA (vt0 0 0) (fun j => rvl 48 g1V p1z (nst 48 g1E j (3, l.drop 4))) 5
def Ma {l : LU0} (hn : 4 <= l.length) := PLift.up (ai (show (0 : Int) <= 4 /\ (4 : Int) <= (ofL l).size from ⟨by decide, by show (4 : Int) <= ((l).length : Nat); omega⟩) (ai (show decide ((((ofL l).size : Nat) : Int) < 4) = false from decide_eq_false (by show ¬ ((l.length : Nat) : Int) < 4; omega)) tt0))
abbrev vp (l : LU0) := nst 48 g1E 5 (3, l.drop 4)
abbrev tV (l : LU0) := qh (3, l.drop 4)
def Od (l : LU0) := PLift.up (show ((qh (3, l.drop 4)).1 != 0) = true from by rw [yk (st := (3, l.drop 4)) (show (3 : Int) ≠ 0 by decide)]; rfl)
theorem abE (l : LU0) (hn : 4 <= l.length) (hm : l.take 4 = mgV) (hx : l.length ≠ 486) : Gives prog 7 (zr l) (.tp [.ag u7, vi0 (qh (3, l.drop 4)).1]) := by
 have h0 : ((3, l.drop 4) : Int × LU0).1 = 0 -> 480 <= ((3, l.drop 4) : Int × LU0).2.length := fun h => absurd (show (3 : Int) = 0 from h) (by decide)
 exact zm [(9, wF), (14, rO 5 0), (16, wF), (21, rO 5 0), (34, wT), (78, lpO { I := PC (l.drop 4), ex := .exit 0, E := gcE (A3 l) (vp l).2 (vp l).1, fr := 79 }), (80, lpO { I := gcK (A3 l) (vp l).2 (vp l).1 0, ex := .exit 2, E := gcE (K9 0 0 (3, l.drop 4)) (tV l).2 (tV l).1, fr := 81 }), (89, wT), (98, wT), (99, lpO { kd := 5, I := gcX (tV l).2 (tV l).1, ex := .normal, E := gcY (tV l).1, fr := 106 })] (ai (show some (gcX (tV l).2 (tV l).1) = some (gcX (tV l).2 (tV l).1) from rfl) (ai (uV (tV l).2 (tV l).1) (ai (Od l).down (ai (Od l).down (ai (show some (gcK (A3 l) (vp l).2 (vp l).1 0) = some (gcK (A3 l) (vp l).2 (vp l).1 0) from rfl) (ai (w6 (A3 l) (vp l) (BT (3, l.drop 4) h0)) (ai (show some (PC (l.drop 4)) = some (PC (l.drop 4)) from rfl) (ai (((xh (vt0 0 0) (3, l.drop 4) (fun h => by have := h0 h; omega)).pre [(36, 48)] (by kernel_rfl) (Qq (l.drop 4)))) (ai (show ((((ofL (l.drop 4)).size : Nat) : Int) != 482) = true from by
    have h1 : (((l.drop 4).length : Nat) : Int) ≠ 482 := by rw [List.length_drop]; omega
    exact bne_iff_ne.2 h1) (ai (show (0 : Int) <= 4 /\ (4 : Int) <= (ofL l).size from ⟨by decide, by show (4 : Int) <= ((l).length : Nat); omega⟩) (ai (Dy hm).down
   (Ma hn).down)))))))))))
abbrev Cq := vvA (vt0 0 0) (fun j => rvl 48 g1V p1z (nst 48 g1E j (80, []))) 5
abbrev xq := nst 48 g1E 5 (80, [])
def DI := PLift.up (show ((qh (80, [])).1 != 0) = true from by rw [yk (st := (80, [])) (show (80 : Int) ≠ 0 by decide)]; rfl)
def NR : Nat × Ora := (71, lpO { I := gcK Cq xq.2 xq.1 0, ex := .exit 2, E := gcE (K9 0 0 (80, [])) (qh (80, [])).2 (qh (80, [])).1, fr := 72 })
abbrev DY := gcX (qh (80, [])).2 (qh (80, [])).1
def Pd : Nat × Ora := (90, lpO { kd := 5, I := gcX (qh (80, [])).2 (qh (80, [])).1, ex := .normal, E := gcY (qh (80, [])).1, fr := 97 })
def N7 := PLift.up (show some (gcK Cq xq.2 xq.1 0) = some (gcK Cq xq.2 xq.1 0) from rfl)
def LR : Nat × Ora := (69, lpO { I := Ib, ex := .exit 0, E := gcE Cq xq.2 xq.1, fr := 70 })
theorem ab8 (l : LU0) (hn : l.length < 4) : Gives prog 7 (zr l) (.tp [.ag u7, vi0 (qh (80, [])).1]) := by
 have h0 : ((80, []) : Int × LU0).1 = 0 -> 480 <= ((80, []) : Int × LU0).2.length := fun h => absurd (show (80 : Int) = 0 from h) (by decide)
 exact zm [(9, wT), LR, NR, (80, wT), (89, wT), Pd] (ai (show some DY = some DY from rfl) (ai (uV (qh (80, [])).2 (qh (80, [])).1) (ai DI.down (ai DI.down (ai N7.down (ai (w6 Cq xq (BT (80, []) h0)) (ai (show some (Ib) = some (Ib) from rfl) (ai (((xh (vt0 0 0) (80, []) (fun h => by have := h0 h; omega)).pre [(23, 19), (36, 39)] (by kernel_rfl) (Fh))) (ai (show decide ((((ofL l).size : Nat) : Int) < 4) = true from decide_eq_true (by show  ((l.length : Nat) : Int) < 4; omega)) tt0)))))))))
theorem acT (l : LU0) (hn : 4 <= l.length) (hm : l.take 4 ≠ mgV) : Gives prog 7 (zr l) (.tp [.ag u7, vi0 (qh (80, [])).1]) := by
 have h0 : ((80, []) : Int × LU0).1 = 0 -> 480 <= ((80, []) : Int × LU0).2.length := fun h => absurd (show (80 : Int) = 0 from h) (by decide)
 exact zm [(9, wF), (14, rO 5 0), (16, wT), LR, NR, (80, wT), (89, wT), Pd] (ai (show some DY = some DY from rfl) (ai (uV (qh (80, [])).2 (qh (80, [])).1) (ai DI.down (ai DI.down (ai N7.down (ai (w6 Cq xq (BT (80, []) h0)) (ai (show some (Ib) = some (Ib) from rfl) (ai (((xh (vt0 0 0) (80, []) (fun h => by have := h0 h; omega)).pre [(23, 19), (36, 39)] (by kernel_rfl) (Fh))) (ai (show (!((ofL (l.take 4)).toList == (ofL mgV).toList)) = true from BM hm)
   (Ma hn).down)))))))))
def AI (l : LU0) : Int := if l.take 4 = mgV then (if l.length = 486 then (rst 96 g2E (qh (0, (((l.drop 4).drop 1).drop 1)))).1 else 3) else 80
def gcR (l : LU0) : VT := { K9 ((cn ((l.drop 4).take 1) 0 : Nat) : Int) ((cn (((l.drop 4).drop 1).take 1) 0 : Nat) : Int) (0, (((l.drop 4).drop 1).drop 1)) with b := g2V ((qh (0, (((l.drop 4).drop 1).drop 1))).2.take 96) }
theorem VL (l : LU0) (h : AI l = 0) : Gives prog 7 [.t (.v (.string (ofL l)))] (.tp [.ag (gcR l).ch, vi0 0]) := by
 unfold AI at h
 split at h
 ·rename_i hm
  split at h
  ·rename_i hn
   by_cases h8 : (qh (0, (((l.drop 4).drop 1).drop 1))).1 = 0
   ·have e8 : qh (0, (((l.drop 4).drop 1).drop 1)) = (0, (qh (0, (((l.drop 4).drop 1).drop 1))).2) := Prod.ext h8 rfl
    rw [e8, Ea] at h
    exact WW l hn hm e8 h
   ·rw [vx h8] at h; exact absurd h h8
  ·exact absurd h (by decide)
 ·exact absurd h (by decide)
theorem Tx (l : LU0) (h : AI l ≠ 0) : Gives prog 7 [.t (.v (.string (ofL l)))] (.tp [.ag u7, vi0 (AI l)]) := by
 unfold AI at h ⊢
 by_cases hm : l.take 4 = mgV
 ·have h4 : 4 <= l.length := by
   have := congrArg List.length hm
   rw [List.length_take] at this
   have h5 : mgV.length = 4 := rfl
   omega
  rw [if_pos hm] at h ⊢
  by_cases hn : l.length = 486
  ·rw [if_pos hn] at h ⊢
   by_cases h8 : (qh (0, (((l.drop 4).drop 1).drop 1))).1 = 0
   ·have e8 : qh (0, (((l.drop 4).drop 1).drop 1)) = (0, (qh (0, (((l.drop 4).drop 1).drop 1))).2) := Prod.ext h8 rfl
    have e9 : (rst 96 g2E (qh (0, (((l.drop 4).drop 1).drop 1)))).1 = g2E ((qh (0, (((l.drop 4).drop 1).drop 1))).2.take 96) := congrArg Prod.fst (if_pos h8)
    rw [e9] at h ⊢
    exact U3 l hn hm e8 h
   ·rw [vx h8]
    exact VJ l hn hm h8
  ·rw [if_neg hn]
   have e := abE l h4 hm hn
   rw [yk (st := (3, l.drop 4)) (show (3 : Int) ≠ 0 by decide)] at e
   exact e
 ·rw [if_neg hm]
  have e : (qh (80, [])).1 = 80 := by rw [yk (st := (80, [])) (show (80 : Int) ≠ 0 by decide)]
  rw [← e]
  by_cases h4 : l.length < 4
  ·exact ab8 l h4
  ·exact acT l (by omega) hm
end Go.Proofs.YtokjhbmmdmeafaaGreat
set_option linter.unusedSimpArgs false
set_option linter.unusedVariables false
namespace Go.Proofs.YtokjhbmmdmeafaaGreat
open Go.Ev Go.RowKit
open Tryz
def zk : List Ch := [.c (.slice none 0 0)] ++ KB
theorem abC (C : List Value) (a : A1) : flat [.l C, .n 6 a.1, .n 6 a.2.1, .c (.bool a.2.2)] = flat [.l (C ++ ptC a)] := by simp [flat, Ch.cells, ptC, ptP]
theorem YC (a : A1) : flat [.n 6 a.1, .n 6 a.2.1, .c (.bool a.2.2)] = flat [.l (ptC a)] := by simp [flat, Ch.cells, ptC, ptP]
theorem L4 (a b : List Ch) : flat (a ++ b) = flat a ++ flat b := by
 induction a with
 | nil => rfl
 | cons c l ih => simp only [List.cons_append, flat, ih, List.append_assoc]
theorem EO : flat qk = ptC p1z := by kernel_rfl
theorem aab (C : List Value) : flat ([.l C] ++ qk) = flat [.l (C ++ ptC p1z)] := by
 rw [L4, EO]; simp [flat, Ch.cells]
theorem S0 : flat qk = flat [.l (ptC p1z)] := by rw [EO, GM]
def gkZ (N : Nat) (sb : LU0) (e : Int) : LState := { n := 42, sl := [(2, .p 0 0), (4, .p 23 0), (6, .p 106 0), (17, vi0 (N : Int)), (18, vi0 0)], hp := [(0, .own zk 54), (23, .own [.c (.string (ofL sb)), ci0 e] 85), (106, .own zk 54)] }
def gkI (N : Nat) (C : List Value) (i : Nat) (sb : LU0) (e : Int) : LState := { n := 42, sl := [(2, .p 0 0), (4, .p 23 0), (6, .p 106 0), (17, vi0 (N : Int)), (18, vi0 (i : Int))], hp := [(0, .own zk 54), (23, .own [.c (.string (ofL sb)), ci0 e] 85), (106, .own ([.sx 24 i] ++ KB) 54), (24, .gr [.l C] 26 13)] }
def vg (N : Nat) (P : List Ch) (z : Int) (m : Nat) (sb : LU0) (e : Int) : LState := { n := 42, sl := [(2, .p 0 0), (4, .p 23 0), (6, .p 106 0), (17, vi0 (N : Int)), (18, vi0 z)], hp := [(0, .own zk 54), (23, .own [.c (.string (ofL sb)), ci0 e] 85), (106, .own ([.sx 160 m] ++ KB) 54), (160, .gr P 26 13)] }
def BL (N : Nat) (P : List Ch) (z : Int) (m : Nat) (sb : LU0) (e : Int) : LState := { n := 42, sl := [(2, .p 0 0), (4, .p 23 0), (6, .p 106 0), (17, vi0 (N : Int)), (18, vi0 z)], hp := [(0, .own zk 54), (23, .own [.c (.string (ofL sb)), ci0 e] 85), (106, .own ([.sx 121 m] ++ KB) 54), (121, .gr P 26 13)] }
def VP (sb : LU0) (e : Int) : LState := { n := 42, sl := [(2, .p 0 0), (4, .p 23 0), (6, .p 106 0)], hp := [(0, .own zk 54), (23, .own [.c (.string (ofL sb)), ci0 e] 85), (106, .own zk 54)] }
def gkE (C : List Value) (i : Nat) (sb : LU0) (e : Int) : LState := { n := 42, sl := [(2, .p 0 0), (4, .p 23 0), (6, .p 106 0)], hp := [(0, .own zk 54), (23, .own [.c (.string (ofL sb)), ci0 e] 85), (106, .own ([.sx 24 i] ++ KB) 54), (24, .gr [.l C] 26 13)] }
abbrev zi (a : AA) (e : Ex) (b : AA) : Prop := Sound prog 0 false (Ay f10 0) a e b
theorem N3 (N : Nat) (sb : LU0) (hl : 48 <= sb.length) (h : (g1E (sb.take 48)) = 0) : zi (gkZ N sb 0).aa .normal (vg N (pt1 (g1V (sb.take 48))) 0 1 (sb.drop 48) (g1E (sb.take 48))).aa := by
 have hL : ((((g1E (sb.take 48)) != 0) = false) /\ (((0 : Int) <= 48 /\ (48 : Int) <= (ofL sb).size) /\ (((0 : Int) <= 48 /\ (48 : Int) <= (ofL sb).size) /\ (True)))) /\ (some (vg N (pt1 (g1V (sb.take 48))) 0 1 (sb.drop 48) (g1E (sb.take 48))) = some (vg N (pt1 (g1V (sb.take 48))) 0 1 (sb.drop 48) (g1E (sb.take 48)))) := ⟨⟨by rw [h]; rfl, ⟨⟨by decide, by show (48 : Int) <= (sb.length : Nat); omega⟩, ⟨⟨by decide, by show (48 : Int) <= (sb.length : Nat); omega⟩, tt0⟩⟩⟩, rfl⟩
 exact p9 (P := prog) (X := pC _) (env := [qD, q8]) ⟨qf, qo, tt0⟩ (qW (P := prog) (X := pC _) (env := [qD, q8]) (os := oL [(124, rO 5 0), (138, rO 5 0), (156, wF)]) ⟨qf, qo, tt0⟩ 3) (os := oL []) (fb := 0) (k := 110) (I := gkZ N sb 0) (E := vg N (pt1 (g1V (sb.take 48))) 0 1 (sb.drop 48) (g1E (sb.take 48))) (by kernel_rfl) (ai (ai (ai (ai (ai (ai (ai (ai hL tt0) tt0) tt0) tt0) tt0) tt0) (ai (ai (ai (ai (ai (ai (ai hL tt0) tt0) tt0) tt0) tt0) (ai (ai (ai (ai (ai (ai hL tt0) tt0) tt0) tt0) (ai (ai (ai (ai (ai hL tt0) tt0) tt0) tt0) tt0)) tt0)) tt0)) (ai (ai (ai (ai (ai (ai (ai (ai hL tt0) tt0) tt0) tt0) tt0) (ai (ai (ai (ai (ai (ai hL tt0) tt0) tt0) tt0) (ai (ai (ai (ai (ai hL tt0) tt0) tt0) tt0) tt0)) tt0)) (ai (ai (ai (ai (ai (ai (ai hL tt0) tt0) tt0) tt0) (ai (ai (ai (ai (ai hL tt0) tt0) tt0) tt0) tt0)) (ai (ai (ai (ai (ai (ai hL tt0) tt0) tt0) tt0) tt0) tt0)) tt0)) tt0))
abbrev rE := pF (.int .u64 0)
abbrev S4 := 54 = 54 /\ (qs 1) /\ rE /\ rE /\ rE /\ rE /\ rE /\ rE /\ rE /\ rE /\ rE /\ rE /\ rE /\ rE /\ rE /\ rE /\ rE /\ rE /\ rE /\ rE /\ rE /\ rE /\ rE /\ rE /\ rE /\ rE /\ (true = true /\ true = true /\ [Value.bool false] = [Value.bool false]) /\ True
def GA {N : Nat} (hi : 0 < N) := PLift.up (ai (show decide ((0 : Int) < ((N : Nat) : Int)) = true from decide_eq_true (by omega)) tt0)
theorem y8 {c : Code} {I J : LState} {ex : Ex} {b : Prop} (o : LO0) (k : Nat) (τ : List (Nat × Nat)) (hb : b) (h : wu prog (pC _) [] 3 (oL o) 0 false c k I J τ = some (ex, b) := by kernel_rfl) : Sound prog 0 false c I.aa ex J.aa := rV (P := prog) (X := pC _) (env := []) trivial h hb
abbrev uu (a : AA) (e : Ex) (b : AA) : Prop := Sound prog 0 false (pI f10 0) a e b
theorem acG (N : Nat) (hi : 0 < N) (sb : LU0) (hl : 48 <= sb.length) (h : (g1E (sb.take 48)) = 0) : uu (gkZ N sb 0).aa .normal (gkI N (ptC (g1V (sb.take 48))) 1 (sb.drop 48) (g1E (sb.take 48))).aa :=
 y8 [(109, wT), (110, lpO { kd := 5, I := gkZ N sb 0, ex := .normal, E := vg N (pt1 (g1V (sb.take 48))) 0 1 (sb.drop 48) (g1E (sb.take 48)), fr := 161 })] 109 [(24, 160)] (ai (show ((qs 0) /\ (qs 0) /\ (qs 0) /\ (yi (.int .i64 (N : Int))) /\ (Value.int .i64 (IntKind.i64.wrap (0 + 1))) = (Value.int .i64 ((1 : Nat) : Int)) /\ True) /\ ((sH 54 zk) /\ (sH 85 [.c (.string (ofL (sb.drop 48))), ci0 (g1E (sb.take 48))]) /\ S4 /\ ((26 = 26 /\ 13 = 13) /\ flat (pt1 (g1V (sb.take 48))) = flat [.l (ptC (g1V (sb.take 48)))]) /\ True) from ⟨⟨rr0, rr0, rr0, rfl, rfl, tt0⟩, rr0, rr0, ⟨rfl, ⟨rr0, r30, r30, r30, r30, r30, r30, r30, r30, r30, r30, r30, r30, r30, r30, r30, r30, r30, r30, r30, r30, r30, r30, r30, r30, r30, tt0⟩⟩, ⟨rr0, YC _⟩, tt0⟩) (ai (show some (gkZ N sb 0) = some (gkZ N sb 0) from rfl) (ai (N3 N sb hl h)
   (GA hi).down)))
theorem Ow (N : Nat) (sb : LU0) (hl : 48 <= sb.length) (h : (g1E (sb.take 48)) ≠ 0) : zi (gkZ N sb 0).aa .normal (vg N (qk) 0 1 (sb.drop 48) (g1E (sb.take 48))).aa := by
 have hL : ((((g1E (sb.take 48)) != 0) = true) /\ (((0 : Int) <= 48 /\ (48 : Int) <= (ofL sb).size) /\ (((0 : Int) <= 48 /\ (48 : Int) <= (ofL sb).size) /\ (True)))) /\ (some (vg N (qk) 0 1 (sb.drop 48) (g1E (sb.take 48))) = some (vg N (qk) 0 1 (sb.drop 48) (g1E (sb.take 48)))) := ⟨⟨by simpa using h, ⟨⟨by decide, by show (48 : Int) <= (sb.length : Nat); omega⟩, ⟨⟨by decide, by show (48 : Int) <= (sb.length : Nat); omega⟩, tt0⟩⟩⟩, rfl⟩
 exact p9 (P := prog) (X := pC _) (env := [qD, q8]) ⟨qf, qo, tt0⟩ (qW (P := prog) (X := pC _) (env := [qD, q8]) (os := oL [(124, rO 5 0), (138, rO 5 0), (156, wT)]) ⟨qf, qo, tt0⟩ 3) (os := oL []) (fb := 0) (k := 110) (I := gkZ N sb 0) (E := vg N (qk) 0 1 (sb.drop 48) (g1E (sb.take 48))) (by kernel_rfl) (ai (ai (ai (ai (ai (ai (ai (ai hL tt0) tt0) tt0) tt0) tt0) tt0) (ai (ai (ai (ai (ai (ai (ai hL tt0) tt0) tt0) tt0) tt0) (ai (ai (ai (ai (ai (ai hL tt0) tt0) tt0) tt0) (ai (ai (ai (ai (ai hL tt0) tt0) tt0) tt0) tt0)) tt0)) tt0)) (ai (ai (ai (ai (ai (ai (ai (ai hL tt0) tt0) tt0) tt0) tt0) (ai (ai (ai (ai (ai (ai hL tt0) tt0) tt0) tt0) (ai (ai (ai (ai (ai hL tt0) tt0) tt0) tt0) tt0)) tt0)) (ai (ai (ai (ai (ai (ai (ai hL tt0) tt0) tt0) tt0) (ai (ai (ai (ai (ai hL tt0) tt0) tt0) tt0) tt0)) (ai (ai (ai (ai (ai (ai hL tt0) tt0) tt0) tt0) tt0) tt0)) tt0)) tt0))
theorem acr (N : Nat) (hi : 0 < N) (sb : LU0) (hl : 48 <= sb.length) (h : (g1E (sb.take 48)) ≠ 0) : uu (gkZ N sb 0).aa .normal (gkI N (ptC (g1V (sb.take 48))) 1 (sb.drop 48) (g1E (sb.take 48))).aa :=
 y8 [(109, wT), (110, lpO { kd := 5, I := gkZ N sb 0, ex := .normal, E := vg N (qk) 0 1 (sb.drop 48) (g1E (sb.take 48)), fr := 161 })] 109 [(24, 160)] (ai (show ((qs 0) /\ (qs 0) /\ (qs 0) /\ (yi (.int .i64 (N : Int))) /\ (Value.int .i64 (IntKind.i64.wrap (0 + 1))) = (Value.int .i64 ((1 : Nat) : Int)) /\ True) /\ ((sH 54 zk) /\ (sH 85 [.c (.string (ofL (sb.drop 48))), ci0 (g1E (sb.take 48))]) /\ (54 = 54 /\ (qs 1) /\ (pF (.int .u64 0)) /\ (pF (.int .u64 0)) /\ (pF (.int .u64 0)) /\ (pF (.int .u64 0)) /\ (pF (.int .u64 0)) /\ (pF (.int .u64 0)) /\ (pF (.int .u64 0)) /\ (pF (.int .u64 0)) /\ (pF (.int .u64 0)) /\ (pF (.int .u64 0)) /\ (pF (.int .u64 0)) /\ (pF (.int .u64 0)) /\ (pF (.int .u64 0)) /\ (pF (.int .u64 0)) /\ (pF (.int .u64 0)) /\ (pF (.int .u64 0)) /\ (pF (.int .u64 0)) /\ (pF (.int .u64 0)) /\ (pF (.int .u64 0)) /\ (pF (.int .u64 0)) /\ (pF (.int .u64 0)) /\ (pF (.int .u64 0)) /\ (pF (.int .u64 0)) /\ (pF (.int .u64 0)) /\ (true = true /\ true = true /\ [Value.bool false] = [Value.bool false]) /\ True) /\ ((26 = 26 /\ 13 = 13) /\ flat (qk) = flat [.l (ptC (g1V (sb.take 48)))]) /\ True) from ⟨⟨rr0, rr0, rr0, rfl, rfl, tt0⟩, rr0, rr0, ⟨rfl, ⟨rr0, r30, r30, r30, r30, r30, r30, r30, r30, r30, r30, r30, r30, r30, r30, r30, r30, r30, r30, r30, r30, r30, r30, r30, r30, r30, tt0⟩⟩, ⟨rr0, by rw [qB h]; exact S0⟩, tt0⟩) (ai (show some (gkZ N sb 0) = some (gkZ N sb 0) from rfl) (ai (Ow N sb hl h)
   (GA hi).down)))
theorem OG (N : Nat) (sb : LU0) (e : Int) (h : e ≠ 0) : zi (gkZ N sb e).aa .normal (BL N (qk) 0 1 sb e).aa := by
 have hL : (((e != 0) = true) /\ (True)) /\ (some (BL N (qk) 0 1 sb e) = some (BL N (qk) 0 1 sb e)) := ⟨⟨by simpa using h, tt0⟩, rfl⟩
 exact p9 (P := prog) (X := pC _) (env := [qD, q8]) ⟨qf, qo, tt0⟩ (qW (P := prog) (X := pC _) (env := [qD, q8]) (os := oL [(117, wT)]) ⟨qf, qo, tt0⟩ 3) (os := oL []) (fb := 0) (k := 110) (I := gkZ N sb e) (E := BL N (qk) 0 1 sb e) (by kernel_rfl) (ai (ai (ai (ai (ai (ai (ai (ai hL tt0) tt0) tt0) tt0) tt0) tt0) (ai (ai (ai (ai (ai (ai (ai hL tt0) tt0) tt0) tt0) tt0) (ai (ai (ai (ai (ai (ai hL tt0) tt0) tt0) tt0) (ai (ai (ai (ai (ai hL tt0) tt0) tt0) tt0) tt0)) tt0)) tt0)) (ai (ai (ai (ai (ai (ai (ai (ai hL tt0) tt0) tt0) tt0) tt0) (ai (ai (ai (ai (ai (ai hL tt0) tt0) tt0) tt0) (ai (ai (ai (ai (ai hL tt0) tt0) tt0) tt0) tt0)) tt0)) (ai (ai (ai (ai (ai (ai (ai hL tt0) tt0) tt0) tt0) (ai (ai (ai (ai (ai hL tt0) tt0) tt0) tt0) tt0)) (ai (ai (ai (ai (ai (ai hL tt0) tt0) tt0) tt0) tt0) tt0)) tt0)) tt0))
theorem acn (N : Nat) (hi : 0 < N) (sb : LU0) (e : Int) (h : e ≠ 0) : uu (gkZ N sb e).aa .normal (gkI N (ptC p1z) 1 sb e).aa :=
 y8 [(109, wT), (110, lpO { kd := 5, I := gkZ N sb e, ex := .normal, E := BL N (qk) 0 1 sb e, fr := 161 })] 109 [(24, 121)] (ai (show ((qs 0) /\ (qs 0) /\ (qs 0) /\ (yi (.int .i64 (N : Int))) /\ (Value.int .i64 (IntKind.i64.wrap (0 + 1))) = (Value.int .i64 ((1 : Nat) : Int)) /\ True) /\ ((sH 54 zk) /\ (sH 85 [.c (.string (ofL sb)), ci0 e]) /\ S4 /\ ((26 = 26 /\ 13 = 13) /\ flat (qk) = flat [.l (ptC p1z)]) /\ True) from ⟨⟨rr0, rr0, rr0, rfl, rfl, tt0⟩, rr0, rr0, ⟨rfl, ⟨rr0, r30, r30, r30, r30, r30, r30, r30, r30, r30, r30, r30, r30, r30, r30, r30, r30, r30, r30, r30, r30, r30, r30, r30, r30, r30, tt0⟩⟩, ⟨rr0, S0⟩, tt0⟩) (ai (show some (gkZ N sb e) = some (gkZ N sb e) from rfl) (ai (OG N sb e h)
   (GA hi).down)))
def GD : LO0 := [(115, { ch := 0, hi := fun _ => 0, ex := 1 })]
theorem Qx (N i : Nat) (sb : LU0) (hi : i < N) (hN : N <= 100000) (C : List Value) (hC : C.length = i * 13) (hl : 48 <= sb.length) (h : (g1E (sb.take 48)) = 0) : zi (gkI N C i sb 0).aa .normal (vg N ([.l C] ++ pt1 (g1V (sb.take 48))) (i : Int) (i + 1) (sb.drop 48) (g1E (sb.take 48))).aa := by
 have hL : ((rH [.l C] = i * 13 /\ i + 1 <= 9223372036854775807 /\ (i + 1) * 104 <= 140737488355328 /\ True) /\ ((((g1E (sb.take 48)) != 0) = false) /\ (((0 : Int) <= 48 /\ (48 : Int) <= (ofL sb).size) /\ (((0 : Int) <= 48 /\ (48 : Int) <= (ofL sb).size) /\ (True))))) /\ (some (vg N ([.l C] ++ pt1 (g1V (sb.take 48))) (i : Int) (i + 1) (sb.drop 48) (g1E (sb.take 48))) = some (vg N ([.l C] ++ pt1 (g1V (sb.take 48))) (i : Int) (i + 1) (sb.drop 48) (g1E (sb.take 48)))) := ⟨⟨⟨by show C.length + 0 = i * 13; omega, by omega, by omega, tt0⟩, ⟨by rw [h]; rfl, ⟨⟨by decide, by show (48 : Int) <= (sb.length : Nat); omega⟩, ⟨⟨by decide, by show (48 : Int) <= (sb.length : Nat); omega⟩, tt0⟩⟩⟩⟩, rfl⟩
 exact p9 (P := prog) (X := pC _) (env := [qD, q8]) ⟨qf, qo, tt0⟩ (qW (P := prog) (X := pC _) (env := [qD, q8]) (os := oL [(124, rO 5 0), (138, rO 5 0), (156, wF)]) ⟨qf, qo, tt0⟩ 3) (os := oL GD) (fb := 0) (k := 110) (I := gkI N C i sb 0) (E := vg N ([.l C] ++ pt1 (g1V (sb.take 48))) (i : Int) (i + 1) (sb.drop 48) (g1E (sb.take 48))) (by kernel_rfl) (ai (ai (ai (ai (ai (ai (ai (ai hL tt0) tt0) tt0) tt0) tt0) tt0) (ai (ai (ai (ai (ai (ai (ai hL tt0) tt0) tt0) tt0) tt0) (ai (ai (ai (ai (ai (ai hL tt0) tt0) tt0) tt0) (ai (ai (ai (ai (ai hL tt0) tt0) tt0) tt0) tt0)) tt0)) tt0)) (ai (ai (ai (ai (ai (ai (ai (ai hL tt0) tt0) tt0) tt0) tt0) (ai (ai (ai (ai (ai (ai hL tt0) tt0) tt0) tt0) (ai (ai (ai (ai (ai hL tt0) tt0) tt0) tt0) tt0)) tt0)) (ai (ai (ai (ai (ai (ai (ai hL tt0) tt0) tt0) tt0) (ai (ai (ai (ai (ai hL tt0) tt0) tt0) tt0) tt0)) (ai (ai (ai (ai (ai (ai hL tt0) tt0) tt0) tt0) tt0) tt0)) tt0)) tt0))
def GW {N : Nat} {i : Nat} (hi : i < N) (hN : N <= 100000) {C : List Value} (hC : C.length = i * 13) := PLift.up (ai (show decide (((i : Nat) : Int) < ((N : Nat) : Int)) = true from decide_eq_true (by omega)) tt0)
theorem acW (N i : Nat) (sb : LU0) (hi : i < N) (hN : N <= 100000) (C : List Value) (hC : C.length = i * 13) (hl : 48 <= sb.length) (h : (g1E (sb.take 48)) = 0) : uu (gkI N C i sb 0).aa .normal (gkI N (C ++ ptC (g1V (sb.take 48))) (i + 1) (sb.drop 48) (g1E (sb.take 48))).aa :=
 y8 [(109, wT), (110, lpO { kd := 5, I := gkI N C i sb 0, ex := .normal, E := vg N ([.l C] ++ pt1 (g1V (sb.take 48))) (i : Int) (i + 1) (sb.drop 48) (g1E (sb.take 48)), fr := 161 })] 109 [(24, 160)] (ai (show ((qs 0) /\ (qs 0) /\ (qs 0) /\ (yi (.int .i64 (N : Int))) /\ (Value.int .i64 (IntKind.i64.wrap ((i : Int) + 1))) = (Value.int .i64 ((i + 1 : Nat) : Int)) /\ True) /\ ((sH 54 zk) /\ (sH 85 [.c (.string (ofL (sb.drop 48))), ci0 (g1E (sb.take 48))]) /\ (54 = 54 /\ (qs (i + 1)) /\ (pF (.int .u64 0)) /\ (pF (.int .u64 0)) /\ (pF (.int .u64 0)) /\ (pF (.int .u64 0)) /\ (pF (.int .u64 0)) /\ (pF (.int .u64 0)) /\ (pF (.int .u64 0)) /\ (pF (.int .u64 0)) /\ (pF (.int .u64 0)) /\ (pF (.int .u64 0)) /\ (pF (.int .u64 0)) /\ (pF (.int .u64 0)) /\ (pF (.int .u64 0)) /\ (pF (.int .u64 0)) /\ (pF (.int .u64 0)) /\ (pF (.int .u64 0)) /\ (pF (.int .u64 0)) /\ (pF (.int .u64 0)) /\ (pF (.int .u64 0)) /\ (pF (.int .u64 0)) /\ (pF (.int .u64 0)) /\ (pF (.int .u64 0)) /\ (pF (.int .u64 0)) /\ (pF (.int .u64 0)) /\ (true = true /\ true = true /\ [Value.bool false] = [Value.bool false]) /\ True) /\ ((26 = 26 /\ 13 = 13) /\ flat ([.l C] ++ pt1 (g1V (sb.take 48))) = flat [.l (C ++ ptC (g1V (sb.take 48)))]) /\ True) from ⟨⟨rr0, rr0, rr0, rfl, by rw [show IntKind.i64.wrap ((i : Int) + 1) = ((i + 1 : Nat) : Int) by rw [pN]; omega], tt0⟩, rr0, rr0, ⟨rfl, ⟨rr0, r30, r30, r30, r30, r30, r30, r30, r30, r30, r30, r30, r30, r30, r30, r30, r30, r30, r30, r30, r30, r30, r30, r30, r30, r30, tt0⟩⟩, ⟨rr0, abC C _⟩, tt0⟩) (ai (show some (gkI N C i sb 0) = some (gkI N C i sb 0) from rfl) (ai (Qx N i sb hi hN C hC hl h)
   (GW hi hN hC).down)))
theorem LZ (N i : Nat) (sb : LU0) (hi : i < N) (hN : N <= 100000) (C : List Value) (hC : C.length = i * 13) (hl : 48 <= sb.length) (h : (g1E (sb.take 48)) ≠ 0) : zi (gkI N C i sb 0).aa .normal (vg N ([.l C] ++ qk) (i : Int) (i + 1) (sb.drop 48) (g1E (sb.take 48))).aa := by
 have hL : ((rH [.l C] = i * 13 /\ i + 1 <= 9223372036854775807 /\ (i + 1) * 104 <= 140737488355328 /\ True) /\ ((((g1E (sb.take 48)) != 0) = true) /\ (((0 : Int) <= 48 /\ (48 : Int) <= (ofL sb).size) /\ (((0 : Int) <= 48 /\ (48 : Int) <= (ofL sb).size) /\ (True))))) /\ (some (vg N ([.l C] ++ qk) (i : Int) (i + 1) (sb.drop 48) (g1E (sb.take 48))) = some (vg N ([.l C] ++ qk) (i : Int) (i + 1) (sb.drop 48) (g1E (sb.take 48)))) := ⟨⟨⟨by show C.length + 0 = i * 13; omega, by omega, by omega, tt0⟩, ⟨by simpa using h, ⟨⟨by decide, by show (48 : Int) <= (sb.length : Nat); omega⟩, ⟨⟨by decide, by show (48 : Int) <= (sb.length : Nat); omega⟩, tt0⟩⟩⟩⟩, rfl⟩
 exact p9 (P := prog) (X := pC _) (env := [qD, q8]) ⟨qf, qo, tt0⟩ (qW (P := prog) (X := pC _) (env := [qD, q8]) (os := oL [(124, rO 5 0), (138, rO 5 0), (156, wT)]) ⟨qf, qo, tt0⟩ 3) (os := oL GD) (fb := 0) (k := 110) (I := gkI N C i sb 0) (E := vg N ([.l C] ++ qk) (i : Int) (i + 1) (sb.drop 48) (g1E (sb.take 48))) (by kernel_rfl) (ai (ai (ai (ai (ai (ai (ai (ai hL tt0) tt0) tt0) tt0) tt0) tt0) (ai (ai (ai (ai (ai (ai (ai hL tt0) tt0) tt0) tt0) tt0) (ai (ai (ai (ai (ai (ai hL tt0) tt0) tt0) tt0) (ai (ai (ai (ai (ai hL tt0) tt0) tt0) tt0) tt0)) tt0)) tt0)) (ai (ai (ai (ai (ai (ai (ai (ai hL tt0) tt0) tt0) tt0) tt0) (ai (ai (ai (ai (ai (ai hL tt0) tt0) tt0) tt0) (ai (ai (ai (ai (ai hL tt0) tt0) tt0) tt0) tt0)) tt0)) (ai (ai (ai (ai (ai (ai (ai hL tt0) tt0) tt0) tt0) (ai (ai (ai (ai (ai hL tt0) tt0) tt0) tt0) tt0)) (ai (ai (ai (ai (ai (ai hL tt0) tt0) tt0) tt0) tt0) tt0)) tt0)) tt0))
theorem aby (N i : Nat) (sb : LU0) (hi : i < N) (hN : N <= 100000) (C : List Value) (hC : C.length = i * 13) (hl : 48 <= sb.length) (h : (g1E (sb.take 48)) ≠ 0) : uu (gkI N C i sb 0).aa .normal (gkI N (C ++ ptC (g1V (sb.take 48))) (i + 1) (sb.drop 48) (g1E (sb.take 48))).aa :=
 y8 [(109, wT), (110, lpO { kd := 5, I := gkI N C i sb 0, ex := .normal, E := vg N ([.l C] ++ qk) (i : Int) (i + 1) (sb.drop 48) (g1E (sb.take 48)), fr := 161 })] 109 [(24, 160)] (ai (show ((qs 0) /\ (qs 0) /\ (qs 0) /\ (yi (.int .i64 (N : Int))) /\ (Value.int .i64 (IntKind.i64.wrap ((i : Int) + 1))) = (Value.int .i64 ((i + 1 : Nat) : Int)) /\ True) /\ ((sH 54 zk) /\ (sH 85 [.c (.string (ofL (sb.drop 48))), ci0 (g1E (sb.take 48))]) /\ (54 = 54 /\ (qs (i + 1)) /\ (pF (.int .u64 0)) /\ (pF (.int .u64 0)) /\ (pF (.int .u64 0)) /\ (pF (.int .u64 0)) /\ (pF (.int .u64 0)) /\ (pF (.int .u64 0)) /\ (pF (.int .u64 0)) /\ (pF (.int .u64 0)) /\ (pF (.int .u64 0)) /\ (pF (.int .u64 0)) /\ (pF (.int .u64 0)) /\ (pF (.int .u64 0)) /\ (pF (.int .u64 0)) /\ (pF (.int .u64 0)) /\ (pF (.int .u64 0)) /\ (pF (.int .u64 0)) /\ (pF (.int .u64 0)) /\ (pF (.int .u64 0)) /\ (pF (.int .u64 0)) /\ (pF (.int .u64 0)) /\ (pF (.int .u64 0)) /\ (pF (.int .u64 0)) /\ (pF (.int .u64 0)) /\ (pF (.int .u64 0)) /\ (true = true /\ true = true /\ [Value.bool false] = [Value.bool false]) /\ True) /\ ((26 = 26 /\ 13 = 13) /\ flat ([.l C] ++ qk) = flat [.l (C ++ ptC (g1V (sb.take 48)))]) /\ True) from ⟨⟨rr0, rr0, rr0, rfl, by rw [show IntKind.i64.wrap ((i : Int) + 1) = ((i + 1 : Nat) : Int) by rw [pN]; omega], tt0⟩, rr0, rr0, ⟨rfl, ⟨rr0, r30, r30, r30, r30, r30, r30, r30, r30, r30, r30, r30, r30, r30, r30, r30, r30, r30, r30, r30, r30, r30, r30, r30, r30, r30, tt0⟩⟩, ⟨rr0, by rw [qB h]; exact aab C⟩, tt0⟩) (ai (show some (gkI N C i sb 0) = some (gkI N C i sb 0) from rfl) (ai (LZ N i sb hi hN C hC hl h)
   (GW hi hN hC).down)))
theorem Ph (N i : Nat) (sb : LU0) (hi : i < N) (hN : N <= 100000) (C : List Value) (hC : C.length = i * 13) (e : Int) (h : e ≠ 0) : zi (gkI N C i sb e).aa .normal (BL N ([.l C] ++ qk) (i : Int) (i + 1) sb e).aa := by
 have hL : ((rH [.l C] = i * 13 /\ i + 1 <= 9223372036854775807 /\ (i + 1) * 104 <= 140737488355328 /\ True) /\ (((e != 0) = true) /\ (True))) /\ (some (BL N ([.l C] ++ qk) (i : Int) (i + 1) sb e) = some (BL N ([.l C] ++ qk) (i : Int) (i + 1) sb e)) := ⟨⟨⟨by show C.length + 0 = i * 13; omega, by omega, by omega, tt0⟩, ⟨by simpa using h, tt0⟩⟩, rfl⟩
 exact p9 (P := prog) (X := pC _) (env := [qD, q8]) ⟨qf, qo, tt0⟩ (qW (P := prog) (X := pC _) (env := [qD, q8]) (os := oL [(117, wT)]) ⟨qf, qo, tt0⟩ 3) (os := oL GD) (fb := 0) (k := 110) (I := gkI N C i sb e) (E := BL N ([.l C] ++ qk) (i : Int) (i + 1) sb e) (by kernel_rfl) (ai (ai (ai (ai (ai (ai (ai (ai hL tt0) tt0) tt0) tt0) tt0) tt0) (ai (ai (ai (ai (ai (ai (ai hL tt0) tt0) tt0) tt0) tt0) (ai (ai (ai (ai (ai (ai hL tt0) tt0) tt0) tt0) (ai (ai (ai (ai (ai hL tt0) tt0) tt0) tt0) tt0)) tt0)) tt0)) (ai (ai (ai (ai (ai (ai (ai (ai hL tt0) tt0) tt0) tt0) tt0) (ai (ai (ai (ai (ai (ai hL tt0) tt0) tt0) tt0) (ai (ai (ai (ai (ai hL tt0) tt0) tt0) tt0) tt0)) tt0)) (ai (ai (ai (ai (ai (ai (ai hL tt0) tt0) tt0) tt0) (ai (ai (ai (ai (ai hL tt0) tt0) tt0) tt0) tt0)) (ai (ai (ai (ai (ai (ai hL tt0) tt0) tt0) tt0) tt0) tt0)) tt0)) tt0))
theorem abQ (N i : Nat) (sb : LU0) (hi : i < N) (hN : N <= 100000) (C : List Value) (hC : C.length = i * 13) (e : Int) (h : e ≠ 0) : uu (gkI N C i sb e).aa .normal (gkI N (C ++ ptC p1z) (i + 1) sb e).aa :=
 y8 [(109, wT), (110, lpO { kd := 5, I := gkI N C i sb e, ex := .normal, E := BL N ([.l C] ++ qk) (i : Int) (i + 1) sb e, fr := 161 })] 109 [(24, 121)] (ai (show ((qs 0) /\ (qs 0) /\ (qs 0) /\ (yi (.int .i64 (N : Int))) /\ (Value.int .i64 (IntKind.i64.wrap ((i : Int) + 1))) = (Value.int .i64 ((i + 1 : Nat) : Int)) /\ True) /\ ((sH 54 zk) /\ (sH 85 [.c (.string (ofL sb)), ci0 e]) /\ (54 = 54 /\ (qs (i + 1)) /\ (pF (.int .u64 0)) /\ (pF (.int .u64 0)) /\ (pF (.int .u64 0)) /\ (pF (.int .u64 0)) /\ (pF (.int .u64 0)) /\ (pF (.int .u64 0)) /\ (pF (.int .u64 0)) /\ (pF (.int .u64 0)) /\ (pF (.int .u64 0)) /\ (pF (.int .u64 0)) /\ (pF (.int .u64 0)) /\ (pF (.int .u64 0)) /\ (pF (.int .u64 0)) /\ (pF (.int .u64 0)) /\ (pF (.int .u64 0)) /\ (pF (.int .u64 0)) /\ (pF (.int .u64 0)) /\ (pF (.int .u64 0)) /\ (pF (.int .u64 0)) /\ (pF (.int .u64 0)) /\ (pF (.int .u64 0)) /\ (pF (.int .u64 0)) /\ (pF (.int .u64 0)) /\ (pF (.int .u64 0)) /\ (true = true /\ true = true /\ [Value.bool false] = [Value.bool false]) /\ True) /\ ((26 = 26 /\ 13 = 13) /\ flat ([.l C] ++ qk) = flat [.l (C ++ ptC p1z)]) /\ True) from ⟨⟨rr0, rr0, rr0, rfl, by rw [show IntKind.i64.wrap ((i : Int) + 1) = ((i + 1 : Nat) : Int) by rw [pN]; omega], tt0⟩, rr0, rr0, ⟨rfl, ⟨rr0, r30, r30, r30, r30, r30, r30, r30, r30, r30, r30, r30, r30, r30, r30, r30, r30, r30, r30, r30, r30, r30, r30, r30, r30, r30, tt0⟩⟩, ⟨rr0, aab C⟩, tt0⟩) (ai (show some (gkI N C i sb e) = some (gkI N C i sb e) from rfl) (ai (Ph N i sb hi hN C hC e h)
   (GW hi hN hC).down)))
theorem Dg (N : Nat) (hN : N = 0) (sb : LU0) (e : Int) : uu (gkZ N sb e).aa (.exit 0) (VP sb e).aa :=
 C9 [(109, wF)] 109 [2, 4, 6] [0, 23, 106] (ai (show decide ((0 : Int) < ((N : Nat) : Int)) = false from decide_eq_false (by omega)) tt0)
theorem Wy (N : Nat) (C : List Value) (sb : LU0) (e : Int) : uu (gkI N C N sb e).aa (.exit 0) (gkE C N sb e).aa :=
 C9 [(109, wF)] 109 [2, 4, 6] [0, 23, 106, 24] (ai (show decide (((N : Nat) : Int) < ((N : Nat) : Int)) = false from decide_eq_false (by omega)) tt0)
def gkV (st : Int × LU0) (j : Nat) : A1 := rvl 48 g1V p1z (nst 48 g1E j st)
def xo (st : Int × LU0) (i : Nat) : List A1 := (List.range i).map (gkV st)
theorem CD (st : Int × LU0) (i : Nat) : wE (xo st (i + 1)) = wE (xo st i) ++ ptC (gkV st i) := by
 unfold xo
 rw [List.range_succ, List.map_append]
 simp [wE]
theorem z7 : ∀ l : List A1, (wE l).length = l.length * 13
 | [] => rfl
 | g :: l => by
  have ih := z7 l
  simp only [wE, List.flatMap_cons, List.length_append, Gq, List.length_cons] at ih ⊢
  omega
theorem OA (st : Int × LU0) (i : Nat) : (wE (xo st i)).length = i * 13 := by
 rw [z7]; simp [xo]
theorem gkz (N : Nat) (hi : 0 < N) (st : Int × LU0) (hl : st.1 = 0 -> 48 <= st.2.length) : uu (gkZ N st.2 st.1).aa .normal (gkI N (ptC (rvl 48 g1V p1z st)) 1 (rst 48 g1E st).2 (rst 48 g1E st).1).aa := by
 obtain ⟨e, sb⟩ := st
 by_cases h : e = 0
 ·subst h
  by_cases h1 : g1E (sb.take 48) = 0
  ·exact acG N hi sb (hl rfl) h1
  ·exact acr N hi sb (hl rfl) h1
 ·rw [show rst 48 g1E (e, sb) = (e, sb) from if_neg h, show rvl 48 g1V p1z (e, sb) = p1z from if_neg h]
  exact acn N hi sb e h
theorem gkr (N i : Nat) (hi : i < N) (hN : N <= 100000) (C : List Value) (hC : C.length = i * 13) (st : Int × LU0) (hl : st.1 = 0 -> 48 <= st.2.length) : uu (gkI N C i st.2 st.1).aa .normal (gkI N (C ++ ptC (rvl 48 g1V p1z st)) (i + 1) (rst 48 g1E st).2 (rst 48 g1E st).1).aa := by
 obtain ⟨e, sb⟩ := st
 by_cases h : e = 0
 ·subst h
  by_cases h1 : g1E (sb.take 48) = 0
  ·exact acW N i sb hi hN C hC (hl rfl) h1
  ·exact aby N i sb hi hN C hC (hl rfl) h1
 ·rw [show rst 48 g1E (e, sb) = (e, sb) from if_neg h, show rvl 48 g1V p1z (e, sb) = p1z from if_neg h]
  exact abQ N i sb hi hN C hC e h
def gkF (N : Nat) (st : Int × LU0) : Nat -> LState
 | 0 => gkZ N st.2 st.1
 | i + 1 => gkI N (wE (xo st (i + 1))) (i + 1) (nst 48 g1E (i + 1) st).2 (nst 48 g1E (i + 1) st).1
theorem U2 (N : Nat) (st : Int × LU0) (h0 : st.1 = 0 -> 48 * N <= st.2.length) (i : Nat) (hi : i < N) : (nst 48 g1E i st).1 = 0 -> 48 <= (nst 48 g1E i st).2.length := by
 intro h
 obtain ⟨h1, h2, _⟩ := p7 i st h
 rw [h2]
 show 48 <= (st.2.drop (48 * i)).length
 have := h0 h1
 rw [List.length_drop]
 omega
theorem Dl (N : Nat) (h1 : 0 < N) (hN : N <= 100000) (st : Int × LU0) (h0 : st.1 = 0 -> 48 * N <= st.2.length) : Sound prog 0 false (.loop (pI f10 0)) (gkZ N st.2 st.1).aa (.exit 0) (gkE (wE (xo st N)) N (nst 48 g1E N st).2 (nst 48 g1E N st).1).aa := by
 have hh := qr (P := prog) (fb := 0) (rd := false) (body := (pI f10 0)) (ex := .exit 0) (E := gkE (wE (xo st N)) N (nst 48 g1E N st).2 (nst 48 g1E N st).1) (m := fun y : { i : Nat // i <= N } => N - y.val) (fun y => gkF N st y.val) (by simp) (fun y => ?_) ⟨0, by omega⟩
 ·exact hh
 obtain ⟨i, hi⟩ := y
 by_cases e : i < N
 ·refine .inl ⟨⟨i + 1, e⟩, by show N - (i + 1) < N - i; omega, ?_⟩
  have hl := U2 N st h0 i e
  cases i with
  | zero =>
   have h := gkz N e st hl
   show Sound _ _ _ _ (gkZ N st.2 st.1).aa _ (gkI N (wE (xo st 1)) 1 _ _).aa
   rw [CD, show wE (xo st 0) = [] from rfl, List.nil_append]
   exact h
  | succ k =>
   have h := gkr N (k + 1) e hN (wE (xo st (k + 1))) (OA st _) (nst 48 g1E (k + 1) st) hl
   show Sound _ _ _ _ _ _ (gkI N (wE (xo st (k + 1 + 1))) (k + 1 + 1) _ _).aa
   rw [CD]
   exact h
 ·have e : i = N := by omega
  subst e
  refine .inr ?_
  cases i with
  | zero => omega
  | succ k => exact Wy (k + 1) _ _ _
end Go.Proofs.YtokjhbmmdmeafaaGreat
