/- Pruned: Gm. -/
import Derived.Test.YtokjhbmmdmeafaaGreatQGg
import Derived.Test.YtokjhbmmdmeafaaGreatQGj
import Derived.Test.YtokjhbmmdmeafaaGreatQGl
set_option linter.unusedSimpArgs false
set_option linter.unusedVariables false
namespace Go.Proofs.YtokjhbmmdmeafaaGreat
open Go.Ev Go.RowKit
open Tryz
abbrev pU (v : Value) : Prop := true = true /\ true = true /\ [v] = [v]
abbrev qU (n : Nat) : Prop := true = true /\ n = n
abbrev tq (t : Nat) (l : List Ch) : Prop := t = t /\ flat l = flat l
abbrev zX (v : Value) : Prop := v = v
def M3 : List Ch := List.replicate 24 (.c (.int .u64 0)) ++ [.c (.bool false)]
def zvL : List Ch := (List.replicate 8 qI).flatten ++ M3
def wr : List Ch := [ci0 0, ci0 0] ++ zvL
def p2z : A2 := ((0, 0), (0, 0), false)
def gcI (v : VT) (sb : LU0) (e i : Int) : LState := { n := 53, sl := [(2, .p 0 0), (4, .p 23 0), (6, .p 36 0), (21, vi0 i)], hp := [(0, .own wr 41), (23, .own [.c (.string (ofL sb)), ci0 e] 85), (36, .own v.ch 41)] }
def gcK (v : VT) (sb : LU0) (e i : Int) : LState := { n := 53, sl := [(2, .p 0 0), (4, .p 23 0), (6, .p 36 0), (30, vi0 i)], hp := [(0, .own wr 41), (23, .own [.c (.string (ofL sb)), ci0 e] 85), (36, .own v.ch 41)] }
def gcE (v : VT) (sb : LU0) (e : Int) : LState := { n := 53, sl := [(2, .p 0 0), (4, .p 23 0), (6, .p 36 0)], hp := [(0, .own wr 41), (23, .own [.c (.string (ofL sb)), ci0 e] 85), (36, .own v.ch 41)] }
theorem gcF (j k : Int) (hk : Value.int .i64 (IntKind.i64.wrap (j + 1)) = Value.int .i64 k) {sb : LU0} {e : Int} {a b : List Ch} (h : flat a = flat b) : ((qU 0) /\ (qU 0) /\ (qU 0) /\ (Value.int .i64 (IntKind.i64.wrap (j + 1))) = (Value.int .i64 k) /\ True) /\ ((tq 41 wr) /\ (tq 85 [.c (.string (ofL sb)), ci0 e]) /\ (41 = 41 /\ flat a = flat b) /\ True) :=
 ⟨⟨rr0, rr0, rr0, hk, tt0⟩, rr0, rr0, ⟨rfl, h⟩, tt0⟩
theorem uo {os : Nat -> Ora} {c : Code} {I J : LState} {ex : Ex} {ob : Prop} (h : vK prog (pN _) [rf, rR] 3 os 0 false c 156 I J [] = some (ex, ob)) (hob : ob) : Sound prog 0 false c I.aa ex J.aa := qT (P := prog) (X := pN _) (env := [rf, rR]) ⟨qA, qN, tt0⟩ h hob
abbrev rK (a : AA) (e : Ex) (b : AA) : Prop := Sound prog 0 false (pS f7 0) a e b
theorem ab8 (v : VT) (sb : LU0) (e : Int) (hl : 48 <= sb.length) (h : (g1E (sb.take 48)) = 0) : rK (gcI v sb 0 0).aa .normal (gcI { v with q0 := (g1V (sb.take 48)) } (sb.drop 48) (g1E (sb.take 48)) 1).aa :=
 uo (os := oL [(175, rO 5 0), (189, rO 5 0), (207, wF)]) (by kernel_rfl) (ai (gcF 0 1 rfl (sb := (sb.drop 48)) (e := (g1E (sb.take 48))) (a := ins v.ch 2 3 (pt1 (g1V (sb.take 48)))) (b := ({ v with q0 := (g1V (sb.take 48)) } : VT).ch) (by kernel_rfl)) (ai (eqz h) (ai (pK hl) (ai (pK hl) tt0))))
theorem ad5 (v : VT) (sb : LU0) (e : Int) (hl : 48 <= sb.length) (h : (g1E (sb.take 48)) ≠ 0) : rK (gcI v sb 0 0).aa .normal (gcI { v with q0 := (g1V (sb.take 48)) } (sb.drop 48) (g1E (sb.take 48)) 1).aa :=
 uo (os := oL [(175, rO 5 0), (189, rO 5 0), (207, wT)]) (by kernel_rfl) (ai (gcF 0 1 rfl (sb := (sb.drop 48)) (e := (g1E (sb.take 48))) (a := ins v.ch 2 3 (qI)) (b := ({ v with q0 := (g1V (sb.take 48)) } : VT).ch) (by rw [rc h]; kernel_rfl)) (ai (nez h) (ai (pK hl) (ai (pK hl) tt0))))
theorem acf (v : VT) (sb : LU0) (e : Int) (h : e ≠ 0) : rK (gcI v sb e 0).aa .normal (gcI { v with q0 := p1z } sb e 1).aa :=
 uo (os := oL [(168, wT)]) (by kernel_rfl) (ai (gcF 0 1 rfl (sb := sb) (e := e) (a := ins v.ch 2 3 (qI)) (b := ({ v with q0 := p1z } : VT).ch) (by kernel_rfl)) (ai (nez h) tt0))
theorem afh (v : VT) (st : Int × LU0) (hl : st.1 = 0 -> 48 <= st.2.length) : rK (gcI v st.2 st.1 0).aa .normal (gcI { v with q0 := rvl 48 g1V p1z st } (rst 48 g1E st).2 (rst 48 g1E st).1 1).aa := by
 obtain ⟨e, sb⟩ := st
 by_cases h : e = 0
 ·subst h
  by_cases h1 : g1E (sb.take 48) = 0
  ·exact ab8 v sb 0 (hl rfl) h1
  ·exact ad5 v sb 0 (hl rfl) h1
 ·rw [show rst 48 g1E (e, sb) = (e, sb) from if_neg h, show rvl 48 g1V p1z (e, sb) = p1z from if_neg h]
  exact acf v sb e h
theorem ac2 (v : VT) (sb : LU0) (e : Int) (hl : 48 <= sb.length) (h : (g1E (sb.take 48)) = 0) : rK (gcI v sb 0 1).aa .normal (gcI { v with q1 := (g1V (sb.take 48)) } (sb.drop 48) (g1E (sb.take 48)) 2).aa :=
 uo (os := oL [(175, rO 5 0), (189, rO 5 0), (207, wF)]) (by kernel_rfl) (ai (gcF 1 2 rfl (sb := (sb.drop 48)) (e := (g1E (sb.take 48))) (a := ins v.ch 5 3 (pt1 (g1V (sb.take 48)))) (b := ({ v with q1 := (g1V (sb.take 48)) } : VT).ch) (by kernel_rfl)) (ai (eqz h) (ai (pK hl) (ai (pK hl) tt0))))
theorem ada (v : VT) (sb : LU0) (e : Int) (hl : 48 <= sb.length) (h : (g1E (sb.take 48)) ≠ 0) : rK (gcI v sb 0 1).aa .normal (gcI { v with q1 := (g1V (sb.take 48)) } (sb.drop 48) (g1E (sb.take 48)) 2).aa :=
 uo (os := oL [(175, rO 5 0), (189, rO 5 0), (207, wT)]) (by kernel_rfl) (ai (gcF 1 2 rfl (sb := (sb.drop 48)) (e := (g1E (sb.take 48))) (a := ins v.ch 5 3 (qI)) (b := ({ v with q1 := (g1V (sb.take 48)) } : VT).ch) (by rw [rc h]; kernel_rfl)) (ai (nez h) (ai (pK hl) (ai (pK hl) tt0))))
theorem adA (v : VT) (sb : LU0) (e : Int) (h : e ≠ 0) : rK (gcI v sb e 1).aa .normal (gcI { v with q1 := p1z } sb e 2).aa :=
 uo (os := oL [(168, wT)]) (by kernel_rfl) (ai (gcF 1 2 rfl (sb := sb) (e := e) (a := ins v.ch 5 3 (qI)) (b := ({ v with q1 := p1z } : VT).ch) (by kernel_rfl)) (ai (nez h) tt0))
theorem ae4 (v : VT) (st : Int × LU0) (hl : st.1 = 0 -> 48 <= st.2.length) : rK (gcI v st.2 st.1 1).aa .normal (gcI { v with q1 := rvl 48 g1V p1z st } (rst 48 g1E st).2 (rst 48 g1E st).1 2).aa := by
 obtain ⟨e, sb⟩ := st
 by_cases h : e = 0
 ·subst h
  by_cases h1 : g1E (sb.take 48) = 0
  ·exact ac2 v sb 0 (hl rfl) h1
  ·exact ada v sb 0 (hl rfl) h1
 ·rw [show rst 48 g1E (e, sb) = (e, sb) from if_neg h, show rvl 48 g1V p1z (e, sb) = p1z from if_neg h]
  exact adA v sb e h
theorem adM (v : VT) (sb : LU0) (e : Int) (hl : 48 <= sb.length) (h : (g1E (sb.take 48)) = 0) : rK (gcI v sb 0 2).aa .normal (gcI { v with q2 := (g1V (sb.take 48)) } (sb.drop 48) (g1E (sb.take 48)) 3).aa :=
 uo (os := oL [(175, rO 5 0), (189, rO 5 0), (207, wF)]) (by kernel_rfl) (ai (gcF 2 3 rfl (sb := (sb.drop 48)) (e := (g1E (sb.take 48))) (a := ins v.ch 8 3 (pt1 (g1V (sb.take 48)))) (b := ({ v with q2 := (g1V (sb.take 48)) } : VT).ch) (by kernel_rfl)) (ai (eqz h) (ai (pK hl) (ai (pK hl) tt0))))
theorem acD (v : VT) (sb : LU0) (e : Int) (hl : 48 <= sb.length) (h : (g1E (sb.take 48)) ≠ 0) : rK (gcI v sb 0 2).aa .normal (gcI { v with q2 := (g1V (sb.take 48)) } (sb.drop 48) (g1E (sb.take 48)) 3).aa :=
 uo (os := oL [(175, rO 5 0), (189, rO 5 0), (207, wT)]) (by kernel_rfl) (ai (gcF 2 3 rfl (sb := (sb.drop 48)) (e := (g1E (sb.take 48))) (a := ins v.ch 8 3 (qI)) (b := ({ v with q2 := (g1V (sb.take 48)) } : VT).ch) (by rw [rc h]; kernel_rfl)) (ai (nez h) (ai (pK hl) (ai (pK hl) tt0))))
theorem acQ (v : VT) (sb : LU0) (e : Int) (h : e ≠ 0) : rK (gcI v sb e 2).aa .normal (gcI { v with q2 := p1z } sb e 3).aa :=
 uo (os := oL [(168, wT)]) (by kernel_rfl) (ai (gcF 2 3 rfl (sb := sb) (e := e) (a := ins v.ch 8 3 (qI)) (b := ({ v with q2 := p1z } : VT).ch) (by kernel_rfl)) (ai (nez h) tt0))
theorem agK (v : VT) (st : Int × LU0) (hl : st.1 = 0 -> 48 <= st.2.length) : rK (gcI v st.2 st.1 2).aa .normal (gcI { v with q2 := rvl 48 g1V p1z st } (rst 48 g1E st).2 (rst 48 g1E st).1 3).aa := by
 obtain ⟨e, sb⟩ := st
 by_cases h : e = 0
 ·subst h
  by_cases h1 : g1E (sb.take 48) = 0
  ·exact adM v sb 0 (hl rfl) h1
  ·exact acD v sb 0 (hl rfl) h1
 ·rw [show rst 48 g1E (e, sb) = (e, sb) from if_neg h, show rvl 48 g1V p1z (e, sb) = p1z from if_neg h]
  exact acQ v sb e h
theorem abv (v : VT) (sb : LU0) (e : Int) (hl : 48 <= sb.length) (h : (g1E (sb.take 48)) = 0) : rK (gcI v sb 0 3).aa .normal (gcI { v with q3 := (g1V (sb.take 48)) } (sb.drop 48) (g1E (sb.take 48)) 4).aa :=
 uo (os := oL [(175, rO 5 0), (189, rO 5 0), (207, wF)]) (by kernel_rfl) (ai (gcF 3 4 rfl (sb := (sb.drop 48)) (e := (g1E (sb.take 48))) (a := ins v.ch 11 3 (pt1 (g1V (sb.take 48)))) (b := ({ v with q3 := (g1V (sb.take 48)) } : VT).ch) (by kernel_rfl)) (ai (eqz h) (ai (pK hl) (ai (pK hl) tt0))))
theorem aeC (v : VT) (sb : LU0) (e : Int) (hl : 48 <= sb.length) (h : (g1E (sb.take 48)) ≠ 0) : rK (gcI v sb 0 3).aa .normal (gcI { v with q3 := (g1V (sb.take 48)) } (sb.drop 48) (g1E (sb.take 48)) 4).aa :=
 uo (os := oL [(175, rO 5 0), (189, rO 5 0), (207, wT)]) (by kernel_rfl) (ai (gcF 3 4 rfl (sb := (sb.drop 48)) (e := (g1E (sb.take 48))) (a := ins v.ch 11 3 (qI)) (b := ({ v with q3 := (g1V (sb.take 48)) } : VT).ch) (by rw [rc h]; kernel_rfl)) (ai (nez h) (ai (pK hl) (ai (pK hl) tt0))))
theorem adX (v : VT) (sb : LU0) (e : Int) (h : e ≠ 0) : rK (gcI v sb e 3).aa .normal (gcI { v with q3 := p1z } sb e 4).aa :=
 uo (os := oL [(168, wT)]) (by kernel_rfl) (ai (gcF 3 4 rfl (sb := sb) (e := e) (a := ins v.ch 11 3 (qI)) (b := ({ v with q3 := p1z } : VT).ch) (by kernel_rfl)) (ai (nez h) tt0))
theorem agx (v : VT) (st : Int × LU0) (hl : st.1 = 0 -> 48 <= st.2.length) : rK (gcI v st.2 st.1 3).aa .normal (gcI { v with q3 := rvl 48 g1V p1z st } (rst 48 g1E st).2 (rst 48 g1E st).1 4).aa := by
 obtain ⟨e, sb⟩ := st
 by_cases h : e = 0
 ·subst h
  by_cases h1 : g1E (sb.take 48) = 0
  ·exact abv v sb 0 (hl rfl) h1
  ·exact aeC v sb 0 (hl rfl) h1
 ·rw [show rst 48 g1E (e, sb) = (e, sb) from if_neg h, show rvl 48 g1V p1z (e, sb) = p1z from if_neg h]
  exact adX v sb e h
theorem aeH (v : VT) (sb : LU0) (e : Int) (hl : 48 <= sb.length) (h : (g1E (sb.take 48)) = 0) : rK (gcI v sb 0 4).aa .normal (gcI { v with q4 := (g1V (sb.take 48)) } (sb.drop 48) (g1E (sb.take 48)) 5).aa :=
 uo (os := oL [(175, rO 5 0), (189, rO 5 0), (207, wF)]) (by kernel_rfl) (ai (gcF 4 5 rfl (sb := (sb.drop 48)) (e := (g1E (sb.take 48))) (a := ins v.ch 14 3 (pt1 (g1V (sb.take 48)))) (b := ({ v with q4 := (g1V (sb.take 48)) } : VT).ch) (by kernel_rfl)) (ai (eqz h) (ai (pK hl) (ai (pK hl) tt0))))
theorem ab7 (v : VT) (sb : LU0) (e : Int) (hl : 48 <= sb.length) (h : (g1E (sb.take 48)) ≠ 0) : rK (gcI v sb 0 4).aa .normal (gcI { v with q4 := (g1V (sb.take 48)) } (sb.drop 48) (g1E (sb.take 48)) 5).aa :=
 uo (os := oL [(175, rO 5 0), (189, rO 5 0), (207, wT)]) (by kernel_rfl) (ai (gcF 4 5 rfl (sb := (sb.drop 48)) (e := (g1E (sb.take 48))) (a := ins v.ch 14 3 (qI)) (b := ({ v with q4 := (g1V (sb.take 48)) } : VT).ch) (by rw [rc h]; kernel_rfl)) (ai (nez h) (ai (pK hl) (ai (pK hl) tt0))))
theorem abG (v : VT) (sb : LU0) (e : Int) (h : e ≠ 0) : rK (gcI v sb e 4).aa .normal (gcI { v with q4 := p1z } sb e 5).aa :=
 uo (os := oL [(168, wT)]) (by kernel_rfl) (ai (gcF 4 5 rfl (sb := sb) (e := e) (a := ins v.ch 14 3 (qI)) (b := ({ v with q4 := p1z } : VT).ch) (by kernel_rfl)) (ai (nez h) tt0))
theorem agr (v : VT) (st : Int × LU0) (hl : st.1 = 0 -> 48 <= st.2.length) : rK (gcI v st.2 st.1 4).aa .normal (gcI { v with q4 := rvl 48 g1V p1z st } (rst 48 g1E st).2 (rst 48 g1E st).1 5).aa := by
 obtain ⟨e, sb⟩ := st
 by_cases h : e = 0
 ·subst h
  by_cases h1 : g1E (sb.take 48) = 0
  ·exact aeH v sb 0 (hl rfl) h1
  ·exact ab7 v sb 0 (hl rfl) h1
 ·rw [show rst 48 g1E (e, sb) = (e, sb) from if_neg h, show rvl 48 g1V p1z (e, sb) = p1z from if_neg h]
  exact abG v sb e h
def vvA (v : VT) (V : Nat -> A1) (i : Nat) : VT := { v with q0 := if 0 < i then V 0 else v.q0, q1 := if 1 < i then V 1 else v.q1, q2 := if 2 < i then V 2 else v.q2, q3 := if 3 < i then V 3 else v.q3, q4 := if 4 < i then V 4 else v.q4 }
theorem GB {c : Code} {I L : LState} {ex : Ex} {b : Prop} (o : LO0) (k : Nat) (sk hk : List Nat) (hb : b) (h : uW prog (pN _) [] 0 (oL o) 0 false c k I sk hk [] = some (ex, L, b) := by kernel_rfl) : Sound prog 0 false c I.aa ex L.aa := pR (P := prog) (X := pN _) (env := []) trivial h hb
theorem Ui (v : VT) (sb : LU0) (e : Int) : rK (gcI v sb e 5).aa (.exit 0) (gcE v sb e).aa :=
 GB [] 156 [2, 4, 6] [0, 23, 36] trivial
theorem Ug (st : Int × LU0) (h0 : st.1 = 0 -> 240 <= st.2.length) (i : Nat) (hi : i < 5) : (nst 48 g1E i st).1 = 0 -> 48 <= (nst 48 g1E i st).2.length := by
 intro h
 obtain ⟨h1, h2, _⟩ := qh i st h
 rw [h2]
 show 48 <= (st.2.drop (48 * i)).length
 have := h0 h1
 rw [List.length_drop]
 omega
theorem yG (v : VT) (st : Int × LU0) (h0 : st.1 = 0 -> 240 <= st.2.length) : Sound prog 0 false (.loop (pS f7 0)) (gcI (vvA v (fun j => rvl 48 g1V p1z (nst 48 g1E j st)) 0) st.2 st.1 0).aa (.exit 0) (gcE (vvA v (fun j => rvl 48 g1V p1z (nst 48 g1E j st)) 5) (nst 48 g1E 5 st).2 (nst 48 g1E 5 st).1).aa := by
 have hh := qk (P := prog) (fb := 0) (rd := false) (body := (pS f7 0)) (ex := .exit 0) (E := gcE (vvA v (fun j => rvl 48 g1V p1z (nst 48 g1E j st)) 5) (nst 48 g1E 5 st).2 (nst 48 g1E 5 st).1) (m := fun y : { i : Nat // i <= 5 } => 5 - y.val) (fun y => gcI (vvA v (fun j => rvl 48 g1V p1z (nst 48 g1E j st)) y.val) (nst 48 g1E y.val st).2 (nst 48 g1E y.val st).1 (y.val : Int)) (by simp) (fun y => ?_) ⟨0, by omega⟩
 ·exact hh
 obtain ⟨i, hi⟩ := y
 by_cases e : i < 5
 ·refine .inl ⟨⟨i + 1, e⟩, by show 5 - (i + 1) < 5 - i; omega, ?_⟩
  have hl := Ug st h0 i e
  have e : i = 0 ∨ i = 1 ∨ i = 2 ∨ i = 3 ∨ i = 4 := by omega
  rcases e with rfl | rfl | rfl | rfl | rfl
  ·exact afh (vvA v (fun j => rvl 48 g1V p1z (nst 48 g1E j st)) 0) (nst 48 g1E 0 st) hl
  ·exact ae4 (vvA v (fun j => rvl 48 g1V p1z (nst 48 g1E j st)) 1) (nst 48 g1E 1 st) hl
  ·exact agK (vvA v (fun j => rvl 48 g1V p1z (nst 48 g1E j st)) 2) (nst 48 g1E 2 st) hl
  ·exact agx (vvA v (fun j => rvl 48 g1V p1z (nst 48 g1E j st)) 3) (nst 48 g1E 3 st) hl
  ·exact agr (vvA v (fun j => rvl 48 g1V p1z (nst 48 g1E j st)) 4) (nst 48 g1E 4 st) hl
 ·have e : i = 5 := by omega
  subst e
  exact .inr (Ui _ _ _)
abbrev tM (a : AA) (e : Ex) (b : AA) : Prop := Sound prog 0 false (pS f7 1) a e b
theorem adB (v : VT) (sb : LU0) (e : Int) (hl : 48 <= sb.length) (h : (g1E (sb.take 48)) = 0) : tM (gcK v sb 0 0).aa .normal (gcK { v with s0 := (g1V (sb.take 48)) } (sb.drop 48) (g1E (sb.take 48)) 1).aa :=
 uo (os := oL [(175, rO 5 0), (189, rO 5 0), (207, wF)]) (by kernel_rfl) (ai (gcF 0 1 rfl (sb := (sb.drop 48)) (e := (g1E (sb.take 48))) (a := ins v.ch 17 3 (pt1 (g1V (sb.take 48)))) (b := ({ v with s0 := (g1V (sb.take 48)) } : VT).ch) (by kernel_rfl)) (ai (eqz h) (ai (pK hl) (ai (pK hl) tt0))))
theorem acE (v : VT) (sb : LU0) (e : Int) (hl : 48 <= sb.length) (h : (g1E (sb.take 48)) ≠ 0) : tM (gcK v sb 0 0).aa .normal (gcK { v with s0 := (g1V (sb.take 48)) } (sb.drop 48) (g1E (sb.take 48)) 1).aa :=
 uo (os := oL [(175, rO 5 0), (189, rO 5 0), (207, wT)]) (by kernel_rfl) (ai (gcF 0 1 rfl (sb := (sb.drop 48)) (e := (g1E (sb.take 48))) (a := ins v.ch 17 3 (qI)) (b := ({ v with s0 := (g1V (sb.take 48)) } : VT).ch) (by rw [rc h]; kernel_rfl)) (ai (nez h) (ai (pK hl) (ai (pK hl) tt0))))
theorem abM (v : VT) (sb : LU0) (e : Int) (h : e ≠ 0) : tM (gcK v sb e 0).aa .normal (gcK { v with s0 := p1z } sb e 1).aa :=
 uo (os := oL [(168, wT)]) (by kernel_rfl) (ai (gcF 0 1 rfl (sb := sb) (e := e) (a := ins v.ch 17 3 (qI)) (b := ({ v with s0 := p1z } : VT).ch) (by kernel_rfl)) (ai (nez h) tt0))
theorem afQ (v : VT) (st : Int × LU0) (hl : st.1 = 0 -> 48 <= st.2.length) : tM (gcK v st.2 st.1 0).aa .normal (gcK { v with s0 := rvl 48 g1V p1z st } (rst 48 g1E st).2 (rst 48 g1E st).1 1).aa := by
 obtain ⟨e, sb⟩ := st
 by_cases h : e = 0
 ·subst h
  by_cases h1 : g1E (sb.take 48) = 0
  ·exact adB v sb 0 (hl rfl) h1
  ·exact acE v sb 0 (hl rfl) h1
 ·rw [show rst 48 g1E (e, sb) = (e, sb) from if_neg h, show rvl 48 g1V p1z (e, sb) = p1z from if_neg h]
  exact abM v sb e h
theorem abw (v : VT) (sb : LU0) (e : Int) (hl : 48 <= sb.length) (h : (g1E (sb.take 48)) = 0) : tM (gcK v sb 0 1).aa .normal (gcK { v with s1 := (g1V (sb.take 48)) } (sb.drop 48) (g1E (sb.take 48)) 2).aa :=
 uo (os := oL [(175, rO 5 0), (189, rO 5 0), (207, wF)]) (by kernel_rfl) (ai (gcF 1 2 rfl (sb := (sb.drop 48)) (e := (g1E (sb.take 48))) (a := ins v.ch 20 3 (pt1 (g1V (sb.take 48)))) (b := ({ v with s1 := (g1V (sb.take 48)) } : VT).ch) (by kernel_rfl)) (ai (eqz h) (ai (pK hl) (ai (pK hl) tt0))))
theorem adi (v : VT) (sb : LU0) (e : Int) (hl : 48 <= sb.length) (h : (g1E (sb.take 48)) ≠ 0) : tM (gcK v sb 0 1).aa .normal (gcK { v with s1 := (g1V (sb.take 48)) } (sb.drop 48) (g1E (sb.take 48)) 2).aa :=
 uo (os := oL [(175, rO 5 0), (189, rO 5 0), (207, wT)]) (by kernel_rfl) (ai (gcF 1 2 rfl (sb := (sb.drop 48)) (e := (g1E (sb.take 48))) (a := ins v.ch 20 3 (qI)) (b := ({ v with s1 := (g1V (sb.take 48)) } : VT).ch) (by rw [rc h]; kernel_rfl)) (ai (nez h) (ai (pK hl) (ai (pK hl) tt0))))
theorem acm (v : VT) (sb : LU0) (e : Int) (h : e ≠ 0) : tM (gcK v sb e 1).aa .normal (gcK { v with s1 := p1z } sb e 2).aa :=
 uo (os := oL [(168, wT)]) (by kernel_rfl) (ai (gcF 1 2 rfl (sb := sb) (e := e) (a := ins v.ch 20 3 (qI)) (b := ({ v with s1 := p1z } : VT).ch) (by kernel_rfl)) (ai (nez h) tt0))
theorem afc (v : VT) (st : Int × LU0) (hl : st.1 = 0 -> 48 <= st.2.length) : tM (gcK v st.2 st.1 1).aa .normal (gcK { v with s1 := rvl 48 g1V p1z st } (rst 48 g1E st).2 (rst 48 g1E st).1 2).aa := by
 obtain ⟨e, sb⟩ := st
 by_cases h : e = 0
 ·subst h
  by_cases h1 : g1E (sb.take 48) = 0
  ·exact abw v sb 0 (hl rfl) h1
  ·exact adi v sb 0 (hl rfl) h1
 ·rw [show rst 48 g1E (e, sb) = (e, sb) from if_neg h, show rvl 48 g1V p1z (e, sb) = p1z from if_neg h]
  exact acm v sb e h
theorem adt (v : VT) (sb : LU0) (e : Int) (hl : 48 <= sb.length) (h : (g1E (sb.take 48)) = 0) : tM (gcK v sb 0 2).aa .normal (gcK { v with s2 := (g1V (sb.take 48)) } (sb.drop 48) (g1E (sb.take 48)) 3).aa :=
 uo (os := oL [(175, rO 5 0), (189, rO 5 0), (207, wF)]) (by kernel_rfl) (ai (gcF 2 3 rfl (sb := (sb.drop 48)) (e := (g1E (sb.take 48))) (a := ins v.ch 23 3 (pt1 (g1V (sb.take 48)))) (b := ({ v with s2 := (g1V (sb.take 48)) } : VT).ch) (by kernel_rfl)) (ai (eqz h) (ai (pK hl) (ai (pK hl) tt0))))
theorem acB (v : VT) (sb : LU0) (e : Int) (hl : 48 <= sb.length) (h : (g1E (sb.take 48)) ≠ 0) : tM (gcK v sb 0 2).aa .normal (gcK { v with s2 := (g1V (sb.take 48)) } (sb.drop 48) (g1E (sb.take 48)) 3).aa :=
 uo (os := oL [(175, rO 5 0), (189, rO 5 0), (207, wT)]) (by kernel_rfl) (ai (gcF 2 3 rfl (sb := (sb.drop 48)) (e := (g1E (sb.take 48))) (a := ins v.ch 23 3 (qI)) (b := ({ v with s2 := (g1V (sb.take 48)) } : VT).ch) (by rw [rc h]; kernel_rfl)) (ai (nez h) (ai (pK hl) (ai (pK hl) tt0))))
theorem ad3 (v : VT) (sb : LU0) (e : Int) (h : e ≠ 0) : tM (gcK v sb e 2).aa .normal (gcK { v with s2 := p1z } sb e 3).aa :=
 uo (os := oL [(168, wT)]) (by kernel_rfl) (ai (gcF 2 3 rfl (sb := sb) (e := e) (a := ins v.ch 23 3 (qI)) (b := ({ v with s2 := p1z } : VT).ch) (by kernel_rfl)) (ai (nez h) tt0))
theorem afr (v : VT) (st : Int × LU0) (hl : st.1 = 0 -> 48 <= st.2.length) : tM (gcK v st.2 st.1 2).aa .normal (gcK { v with s2 := rvl 48 g1V p1z st } (rst 48 g1E st).2 (rst 48 g1E st).1 3).aa := by
 obtain ⟨e, sb⟩ := st
 by_cases h : e = 0
 ·subst h
  by_cases h1 : g1E (sb.take 48) = 0
  ·exact adt v sb 0 (hl rfl) h1
  ·exact acB v sb 0 (hl rfl) h1
 ·rw [show rst 48 g1E (e, sb) = (e, sb) from if_neg h, show rvl 48 g1V p1z (e, sb) = p1z from if_neg h]
  exact ad3 v sb e h
def vvB (v : VT) (V : Nat -> A1) (i : Nat) : VT := { v with s0 := if 0 < i then V 0 else v.s0, s1 := if 1 < i then V 1 else v.s1, s2 := if 2 < i then V 2 else v.s2 }
theorem WO (v : VT) (sb : LU0) (e : Int) : tM (gcK v sb e 3).aa (.exit 2) (gcE v sb e).aa :=
 GB [] 156 [2, 4, 6] [0, 23, 36] trivial
theorem Vc (st : Int × LU0) (h0 : st.1 = 0 -> 144 <= st.2.length) (i : Nat) (hi : i < 3) : (nst 48 g1E i st).1 = 0 -> 48 <= (nst 48 g1E i st).2.length := by
 intro h
 obtain ⟨h1, h2, _⟩ := qh i st h
 rw [h2]
 show 48 <= (st.2.drop (48 * i)).length
 have := h0 h1
 rw [List.length_drop]
 omega
theorem yJ (v : VT) (st : Int × LU0) (h0 : st.1 = 0 -> 144 <= st.2.length) : Sound prog 0 false (.loop (pS f7 1)) (gcK (vvB v (fun j => rvl 48 g1V p1z (nst 48 g1E j st)) 0) st.2 st.1 0).aa (.exit 2) (gcE (vvB v (fun j => rvl 48 g1V p1z (nst 48 g1E j st)) 3) (nst 48 g1E 3 st).2 (nst 48 g1E 3 st).1).aa := by
 have hh := qk (P := prog) (fb := 0) (rd := false) (body := (pS f7 1)) (ex := .exit 2) (E := gcE (vvB v (fun j => rvl 48 g1V p1z (nst 48 g1E j st)) 3) (nst 48 g1E 3 st).2 (nst 48 g1E 3 st).1) (m := fun y : { i : Nat // i <= 3 } => 3 - y.val) (fun y => gcK (vvB v (fun j => rvl 48 g1V p1z (nst 48 g1E j st)) y.val) (nst 48 g1E y.val st).2 (nst 48 g1E y.val st).1 (y.val : Int)) (by simp) (fun y => ?_) ⟨0, by omega⟩
 ·exact hh
 obtain ⟨i, hi⟩ := y
 by_cases e : i < 3
 ·refine .inl ⟨⟨i + 1, e⟩, by show 3 - (i + 1) < 3 - i; omega, ?_⟩
  have hl := Vc st h0 i e
  have e : i = 0 ∨ i = 1 ∨ i = 2 := by omega
  rcases e with rfl | rfl | rfl
  ·exact afQ (vvB v (fun j => rvl 48 g1V p1z (nst 48 g1E j st)) 0) (nst 48 g1E 0 st) hl
  ·exact afc (vvB v (fun j => rvl 48 g1V p1z (nst 48 g1E j st)) 1) (nst 48 g1E 1 st) hl
  ·exact afr (vvB v (fun j => rvl 48 g1V p1z (nst 48 g1E j st)) 2) (nst 48 g1E 2 st) hl
 ·have e : i = 3 := by omega
  subst e
  exact .inr (WO _ _ _)
end Go.Proofs.YtokjhbmmdmeafaaGreat
set_option linter.unusedSimpArgs false
set_option linter.unusedVariables false
namespace Go.Proofs.YtokjhbmmdmeafaaGreat
open Go.Ev Go.RowKit
open Tryz
def vt0 (a b : Int) : VT := ⟨a, b, p1z, p1z, p1z, p1z, p1z, p1z, p1z, p1z, p2z⟩
theorem Y7 (V : Nat -> A1) (a b : Int) : flat ([ci0 a, ci0 b] ++ zvL) = flat (vvA (vt0 a b) V 0).ch := by kernel_rfl
def Tc (sb : LU0) (a b : Int) : LState := { n := 53, sl := [(2, .p 0 0), (4, .p 23 0), (6, .p 36 0), (21, vi0 0)], hp := [(0, .own wr 41), (23, .own [.c (.string (ofL sb)), ci0 0] 85), (36, .own ([ci0 a, ci0 b] ++ zvL) 41)] }
def Q7 (sb : LU0) : LState := { n := 53, sl := [(2, .p 0 0), (4, .p 23 0), (6, .p 48 0), (21, vi0 0)], hp := [(0, .own wr 41), (23, .own [.c (.string (ofL sb)), ci0 3] 85), (48, .own ([ci0 0, ci0 0] ++ zvL) 41)] }
def K5 : LState := { n := 53, sl := [(2, .p 0 0), (4, .p 19 0), (6, .p 39 0), (21, vi0 0)], hp := [(0, .own wr 41), (19, .own [.c (.string (ofL [])), ci0 80] 85), (39, .own ([ci0 0, ci0 0] ++ zvL) 41)] }
theorem Cj (sb : LU0) (a b : Int) : qw (Tc sb a b).aa (gcI (vvA (vt0 a b) (fun j => rvl 48 g1V p1z (nst 48 g1E j (0, sb))) 0) sb 0 0) [] := by
 have e : qw (Tc sb a b).aa (gcI (vvA (vt0 a b) (fun j => rvl 48 g1V p1z (nst 48 g1E j (0, sb))) 0) sb 0 0) [] = (((qU 0) /\ (qU 0) /\ (qU 0) /\ (zX (.int .i64 0)) /\ True) /\ ((tq 41 wr) /\ (tq 85 [.c (.string (ofL sb)), ci0 0]) /\ (41 = 41 /\ flat ([ci0 a, ci0 b] ++ zvL) = flat (vvA (vt0 a b) (fun j => rvl 48 g1V p1z (nst 48 g1E j (0, sb))) 0).ch) /\ True)) := by kernel_rfl
 rw [e]
 exact ⟨⟨rr0, rr0, rr0, rfl, tt0⟩, rr0, rr0, ⟨rfl, Y7 _ _ _⟩, tt0⟩
theorem Tz (sb : LU0) : qw (Q7 sb).aa (gcI (vvA (vt0 0 0) (fun j => rvl 48 g1V p1z (nst 48 g1E j (3, sb))) 0) sb 3 0) [(36, 48)] := by
 have e : qw (Q7 sb).aa (gcI (vvA (vt0 0 0) (fun j => rvl 48 g1V p1z (nst 48 g1E j (3, sb))) 0) sb 3 0) [(36, 48)] = (((qU 0) /\ (qU 0) /\ (qU 0) /\ (zX (.int .i64 0)) /\ True) /\ ((tq 41 wr) /\ (tq 85 [.c (.string (ofL sb)), ci0 3]) /\ (41 = 41 /\ flat ([ci0 0, ci0 0] ++ zvL) = flat (vvA (vt0 0 0) (fun j => rvl 48 g1V p1z (nst 48 g1E j (3, sb))) 0).ch) /\ True)) := by kernel_rfl
 rw [e]
 exact ⟨⟨rr0, rr0, rr0, rfl, tt0⟩, rr0, rr0, ⟨rfl, Y7 _ _ _⟩, tt0⟩
theorem HL : qw (K5).aa (gcI (vvA (vt0 0 0) (fun j => rvl 48 g1V p1z (nst 48 g1E j (80, []))) 0) [] 80 0) [(23, 19), (36, 39)] := by
 have e : qw (K5).aa (gcI (vvA (vt0 0 0) (fun j => rvl 48 g1V p1z (nst 48 g1E j (80, []))) 0) [] 80 0) [(23, 19), (36, 39)] = (((qU 0) /\ (qU 0) /\ (qU 0) /\ (zX (.int .i64 0)) /\ True) /\ ((tq 41 wr) /\ (85 = 85 /\ flat [.c (.string (ofL [])), ci0 80] = flat [.c (.string (ofL [])), ci0 80]) /\ (41 = 41 /\ flat ([ci0 0, ci0 0] ++ zvL) = flat (vvA (vt0 0 0) (fun j => rvl 48 g1V p1z (nst 48 g1E j (80, []))) 0).ch) /\ True)) := by kernel_rfl
 rw [e]
 exact ⟨⟨rr0, rr0, rr0, rfl, tt0⟩, rr0, rr0, ⟨rfl, Y7 _ _ _⟩, tt0⟩
def gcX (sb : LU0) (e : Int) : LState := { n := 53, sl := [(2, .p 0 0), (4, .p 23 0)], hp := [(0, .own wr 41), (23, .own [.c (.string (ofL sb)), ci0 e] 85)] }
def gcY (e : Int) : LState := { n := 53, sl := [(2, .p 0 0), (3, vi0 e)], hp := [(0, .own wr 41)] }
theorem v7 (sb : LU0) (e : Int) : Sound prog 0 false (Bl f7 0) (gcX sb e).aa .normal (gcY e).aa := by
 have hL : True /\ (some (gcY e) = some (gcY e)) := ⟨tt0, rfl⟩
 exact qn (P := prog) (X := pN _) (env := []) trivial (rH (P := prog) (X := pN _) (env := []) (os := oL []) trivial 0) (os := oL []) (fb := 0) (k := 62) (I := gcX sb e) (E := gcY e) (by kernel_rfl) (ai (ai (ai (ai (ai (ai (ai hL tt0) tt0) (ai (ai (ai hL tt0) tt0) tt0)) (ai (ai (ai (ai hL tt0) tt0) tt0) tt0)) (ai (ai (ai (ai (ai hL tt0) tt0) tt0) tt0) tt0)) (ai (ai (ai (ai (ai (ai hL tt0) tt0) tt0) tt0) tt0) tt0)) (ai (ai (ai (ai (ai (ai (ai hL tt0) tt0) (ai (ai (ai hL tt0) tt0) tt0)) (ai (ai (ai (ai hL tt0) tt0) tt0) tt0)) (ai (ai (ai (ai (ai hL tt0) tt0) tt0) tt0) tt0)) (ai (ai (ai (ai (ai (ai hL tt0) tt0) (ai (ai (ai hL tt0) tt0) tt0)) (ai (ai (ai (ai hL tt0) tt0) tt0) tt0)) (ai (ai (ai (ai (ai hL tt0) tt0) (ai (ai (ai hL tt0) tt0) tt0)) (ai (ai (ai (ai hL tt0) tt0) tt0) tt0)) tt0)) tt0)) tt0))
theorem D8 (st : Int × LU0) (h0 : st.1 = 0 -> 480 <= st.2.length) : (nst 48 g1E 5 st).1 = 0 -> 144 <= (nst 48 g1E 5 st).2.length := by
 intro h
 obtain ⟨h1, h2, _⟩ := qh 5 st h
 rw [h2]
 show 144 <= (st.2.drop (48 * 5)).length
 have := h0 h1
 rw [List.length_drop]
 omega
def qs (st : Int × LU0) : Int × LU0 := nst 48 g1E 3 (nst 48 g1E 5 st)
def Cf (a b : Int) (st : Int × LU0) : VT := vvB (vvA (vt0 a b) (fun j => rvl 48 g1V p1z (nst 48 g1E j st)) 5) (fun j => rvl 48 g1V p1z (nst 48 g1E j (nst 48 g1E 5 st))) 3
theorem Ag {st : Int × LU0} (h : st.1 ≠ 0) : qs st = st := by
 unfold qs; rw [tW h, tW h]
abbrev zO (l : LU0) := ((l.drop 4).drop 1).drop 1
abbrev Kh (l : LU0) := ((l.drop 4).drop 1).take 1
abbrev EQ (l : LU0) := ((cn (Kh l) 0 : Nat) : Int)
abbrev EY (l : LU0) := ((cn ((l.drop 4).take 1) 0 : Nat) : Int)
abbrev EO (l : LU0) := vvA (vt0 (EY l) (EQ l)) (fun j => rvl 48 g1V p1z (nst 48 g1E j (0, (zO l)))) 5
abbrev xm (l : LU0) := nst 48 g1E 5 (0, (zO l))
abbrev tX (l : LU0) := qs (0, (zO l))
def Gp {l : LU0} (hm : l.take 4 = mgV) := PLift.up (show (!((ofL (l.take 4)).toList == (ofL mgV).toList)) = false from by rw [hm]; simp)
def YM (l : LU0) : Nat × Ora := (156, lpO { I := Tc (zO l) (EY l) (EQ l), ex := .exit 0, E := gcE (EO l) (xm l).2 (xm l).1, fr := 157 })
def JV (l : LU0) := PLift.up (show some (gcK (EO l) (xm l).2 (xm l).1 0) = some (gcK (EO l) (xm l).2 (xm l).1 0) from rfl)
def JZ (l : LU0) := PLift.up (show some (Tc (zO l) (EY l) (EQ l)) = some (Tc (zO l) (EY l) (EQ l)) from rfl)
def SU (l : LU0) : Nat × Ora := (158, lpO { I := gcK (EO l) (xm l).2 (xm l).1 0, ex := .exit 2, E := gcE (Cf (EY l) (EQ l) (0, (zO l))) (tX l).2 0, fr := 159 })
abbrev AQ (l : LU0) : List XV := [.t (.v (.string (ofL l)))]
def Jo (l : LU0) : LO0 := [(6, { ch := 1, hi := fun _ => 486 }), (14, rO 5 0), (16, wF), (21, rO 5 0), (32, { ch := 1, hi := fun _ => 482 }), (53, rO 5 0), (58, rO 1 (cn ((l.drop 4).take 1) 0)), (59, { ch := 1, hi := fun _ => cn ((l.drop 4).take 1) 0 }), (73, rO 5 0), (112, rO 5 0), (117, rO 1 (cn (Kh l) 0)), (118, { ch := 1, hi := fun _ => cn (Kh l) 0 }), (132, rO 5 0), (YM l)]
theorem Ay {a : List XV} {r : AV} {b : Prop} (o : LO0) (hb : b) (h : fnA prog (pN _) [rf, rR] 3 (oL o) f7 a = some (r, b) := by kernel_rfl) (hv : ∃ v, r.val? = some v := by exact ⟨_, rfl⟩) : Gives prog 7 a r := pL (P := prog) (X := pN _) (env := [rf, rR]) ⟨qA, qN, tt0⟩ func7 3 (oL o) h hv hb
theorem ZY (l : LU0) (hn : l.length = 486) (hm : l.take 4 = mgV) (h8 : qs (0, (((l.drop 4).drop 1).drop 1)) = (0, (qs (0, (((l.drop 4).drop 1).drop 1))).2)) (h : g2E ((qs (0, (((l.drop 4).drop 1).drop 1))).2.take 96) = 0) : Gives prog 7 (AQ l) (.tp [.ag ({ (Cf ((cn ((l.drop 4).take 1) 0 : Nat) : Int) ((cn (((l.drop 4).drop 1).take 1) 0 : Nat) : Int) (0, (((l.drop 4).drop 1).drop 1))) with b := g2V ((qs (0, (((l.drop 4).drop 1).drop 1))).2.take 96) } : VT).ch, vi0 0]) := by
 have h0 : ((0, (((l.drop 4).drop 1).drop 1)) : Int × LU0).1 = 0 -> 480 <= ((0, (((l.drop 4).drop 1).drop 1)) : Int × LU0).2.length := fun _ => by show 480 <= (((l.drop 4).drop 1).drop 1).length; simp only [List.length_drop]; omega
 have hR : 96 <= (qs (0, (((l.drop 4).drop 1).drop 1))).2.length := by
  obtain ⟨h5, h6, _⟩ := qh 3 (nst 48 g1E 5 (0, (((l.drop 4).drop 1).drop 1))) (by rw [show nst 48 g1E 3 (nst 48 g1E 5 (0, (((l.drop 4).drop 1).drop 1))) = qs (0, (((l.drop 4).drop 1).drop 1)) from rfl, h8])
  obtain ⟨_, h7, _⟩ := qh 5 (0, (((l.drop 4).drop 1).drop 1)) h5
  rw [show qs (0, (((l.drop 4).drop 1).drop 1)) = nst 48 g1E 3 (nst 48 g1E 5 (0, (((l.drop 4).drop 1).drop 1))) from rfl, h6, h7]
  show 96 <= (((((l.drop 4).drop 1).drop 1).drop (48 * 5)).drop (48 * 3)).length
  simp only [List.length_drop]
  omega
 exact Ay ((Jo l) ++ [(SU l), (174, rO 5 0), (188, rO 5 0), (206, wF), (215, wF)]) (ai (show (g2E ((qs (0, (((l.drop 4).drop 1).drop 1))).2.take 96) != 0) = false from by rw [h]; rfl) (ai (show (g2E ((qs (0, (((l.drop 4).drop 1).drop 1))).2.take 96) != 0) = false from by rw [h]; rfl) (ai (show (0 : Int) <= 96 /\ (96 : Int) <= (ofL (qs (0, (((l.drop 4).drop 1).drop 1))).2).size from ⟨by decide, by show (96 : Int) <= ((qs (0, (((l.drop 4).drop 1).drop 1))).2.length : Nat); omega⟩) (ai (show (0 : Int) <= 96 /\ (96 : Int) <= (ofL (qs (0, (((l.drop 4).drop 1).drop 1))).2).size from ⟨by decide, by show (96 : Int) <= ((qs (0, (((l.drop 4).drop 1).drop 1))).2.length : Nat); omega⟩) (ai (JV l).down (ai ((by have hh := yJ (vvA (vt0 ((cn ((l.drop 4).take 1) 0 : Nat) : Int) ((cn (((l.drop 4).drop 1).take 1) 0 : Nat) : Int)) (fun j => rvl 48 g1V p1z (nst 48 g1E j (0, (((l.drop 4).drop 1).drop 1)))) 5) (nst 48 g1E 5 (0, (((l.drop 4).drop 1).drop 1))) (D8 (0, (((l.drop 4).drop 1).drop 1)) h0); rw [show nst 48 g1E 3 (nst 48 g1E 5 (0, (((l.drop 4).drop 1).drop 1))) = qs (0, (((l.drop 4).drop 1).drop 1)) from rfl, h8] at hh; exact hh)) (ai (JZ l).down (ai (((yG (vt0 ((cn ((l.drop 4).take 1) 0 : Nat) : Int) ((cn (((l.drop 4).drop 1).take 1) 0 : Nat) : Int)) (0, (((l.drop 4).drop 1).drop 1)) (fun h => by have := h0 h; omega)).pre [] (by kernel_rfl) (Cj (((l.drop 4).drop 1).drop 1) ((cn ((l.drop 4).take 1) 0 : Nat) : Int) ((cn (((l.drop 4).drop 1).take 1) 0 : Nat) : Int)))) (ai (show (0 : Int) <= 1 /\ (1 : Int) <= (ofL ((l.drop 4).drop 1)).size from ⟨by decide, by show (1 : Int) <= (((l.drop 4).drop 1).length : Nat); rw [List.length_drop, List.length_drop]; omega⟩) (ai (show IntKind.i64.wrap ((cn (((l.drop 4).drop 1).take 1) 0 : Nat) : Int) = ((cn (((l.drop 4).drop 1).take 1) 0 : Nat) : Int) from qc (by have := qJ (((l.drop 4).drop 1).take 1) 0; omega)) (ai (show (0 : Int) <= 0 /\ (0 : Int) < (ofL (((l.drop 4).drop 1).take 1)).size /\ ((ofL (((l.drop 4).drop 1).take 1))[(0 : Int).toNat]?.getD 0).toNat = cn (((l.drop 4).drop 1).take 1) 0 from CI (((l.drop 4).drop 1).take 1) 0 (by rw [List.length_take]; simp only [List.length_drop]; omega)) (ai (show (0 : Int) <= 1 /\ (1 : Int) <= (ofL ((l.drop 4).drop 1)).size from ⟨by decide, by show (1 : Int) <= (((l.drop 4).drop 1).length : Nat); rw [List.length_drop, List.length_drop]; omega⟩) (ai (show (0 : Int) <= 1 /\ (1 : Int) <= (ofL (l.drop 4)).size from ⟨by decide, by show (1 : Int) <= ((l.drop 4).length : Nat); rw [List.length_drop]; omega⟩) (ai (show IntKind.i64.wrap ((cn ((l.drop 4).take 1) 0 : Nat) : Int) = ((cn ((l.drop 4).take 1) 0 : Nat) : Int) from qc (by have := qJ ((l.drop 4).take 1) 0; omega)) (ai (show (0 : Int) <= 0 /\ (0 : Int) < (ofL ((l.drop 4).take 1)).size /\ ((ofL ((l.drop 4).take 1))[(0 : Int).toNat]?.getD 0).toNat = cn ((l.drop 4).take 1) 0 from CI ((l.drop 4).take 1) 0 (by rw [List.length_take]; simp only [List.length_drop]; omega)) (ai (show (0 : Int) <= 1 /\ (1 : Int) <= (ofL (l.drop 4)).size from ⟨by decide, by show (1 : Int) <= ((l.drop 4).length : Nat); rw [List.length_drop]; omega⟩) (ai (show (((ofL (l.drop 4)).size : Nat) : Int) = ((482 : Nat) : Int) from by show (((l.drop 4).length : Nat) : Int) = _; rw [List.length_drop, hn]) (ai (show (0 : Int) <= 4 /\ (4 : Int) <= (ofL l).size from ⟨by decide, by show (4 : Int) <= ((l).length : Nat); omega⟩) (ai (Gp hm).down (ai (show (0 : Int) <= 4 /\ (4 : Int) <= (ofL l).size from ⟨by decide, by show (4 : Int) <= ((l).length : Nat); omega⟩) (ai (show (((ofL l).size : Nat) : Int) = ((486 : Nat) : Int) from by show ((l.length : Nat) : Int) = _; rw [hn]) tt0)))))))))))))))))))))
abbrev CD (l : LU0) := g2E ((tX l).2.take 96)
theorem aa6 (l : LU0) (hn : l.length = 486) (hm : l.take 4 = mgV) (h8 : qs (0, (((l.drop 4).drop 1).drop 1)) = (0, (qs (0, (((l.drop 4).drop 1).drop 1))).2)) (h : g2E ((qs (0, (((l.drop 4).drop 1).drop 1))).2.take 96) ≠ 0) : Gives prog 7 (AQ l) (.tp [.ag wr, vi0 (g2E ((qs (0, (((l.drop 4).drop 1).drop 1))).2.take 96))]) := by
 have h0 : ((0, (((l.drop 4).drop 1).drop 1)) : Int × LU0).1 = 0 -> 480 <= ((0, (((l.drop 4).drop 1).drop 1)) : Int × LU0).2.length := fun _ => by show 480 <= (((l.drop 4).drop 1).drop 1).length; simp only [List.length_drop]; omega
 have hR : 96 <= (qs (0, (((l.drop 4).drop 1).drop 1))).2.length := by
  obtain ⟨h5, h6, _⟩ := qh 3 (nst 48 g1E 5 (0, (((l.drop 4).drop 1).drop 1))) (by rw [show nst 48 g1E 3 (nst 48 g1E 5 (0, (((l.drop 4).drop 1).drop 1))) = qs (0, (((l.drop 4).drop 1).drop 1)) from rfl, h8])
  obtain ⟨_, h7, _⟩ := qh 5 (0, (((l.drop 4).drop 1).drop 1)) h5
  rw [show qs (0, (((l.drop 4).drop 1).drop 1)) = nst 48 g1E 3 (nst 48 g1E 5 (0, (((l.drop 4).drop 1).drop 1))) from rfl, h6, h7]
  show 96 <= (((((l.drop 4).drop 1).drop 1).drop (48 * 5)).drop (48 * 3)).length
  simp only [List.length_drop]
  omega
 exact Ay ((Jo l) ++ [(SU l), (174, rO 5 0), (188, rO 5 0), (206, wT), (215, wT), (216, lpO { kd := 5, I := gcX ((tX l).2.drop 96) (CD l), ex := .normal, E := gcY (CD l), fr := 223 })]) (ai (show some (gcX ((tX l).2.drop 96) (CD l)) = some (gcX ((tX l).2.drop 96) (CD l)) from rfl) (ai (v7 ((tX l).2.drop 96) (CD l)) (ai (show (g2E ((qs (0, (((l.drop 4).drop 1).drop 1))).2.take 96) != 0) = true from by simpa using h) (ai (show (g2E ((qs (0, (((l.drop 4).drop 1).drop 1))).2.take 96) != 0) = true from by simpa using h) (ai (show (0 : Int) <= 96 /\ (96 : Int) <= (ofL (qs (0, (((l.drop 4).drop 1).drop 1))).2).size from ⟨by decide, by show (96 : Int) <= ((qs (0, (((l.drop 4).drop 1).drop 1))).2.length : Nat); omega⟩) (ai (show (0 : Int) <= 96 /\ (96 : Int) <= (ofL (qs (0, (((l.drop 4).drop 1).drop 1))).2).size from ⟨by decide, by show (96 : Int) <= ((qs (0, (((l.drop 4).drop 1).drop 1))).2.length : Nat); omega⟩) (ai (JV l).down (ai ((by have hh := yJ (vvA (vt0 ((cn ((l.drop 4).take 1) 0 : Nat) : Int) ((cn (((l.drop 4).drop 1).take 1) 0 : Nat) : Int)) (fun j => rvl 48 g1V p1z (nst 48 g1E j (0, (((l.drop 4).drop 1).drop 1)))) 5) (nst 48 g1E 5 (0, (((l.drop 4).drop 1).drop 1))) (D8 (0, (((l.drop 4).drop 1).drop 1)) h0); rw [show nst 48 g1E 3 (nst 48 g1E 5 (0, (((l.drop 4).drop 1).drop 1))) = qs (0, (((l.drop 4).drop 1).drop 1)) from rfl, h8] at hh; exact hh)) (ai (JZ l).down (ai (((yG (vt0 ((cn ((l.drop 4).take 1) 0 : Nat) : Int) ((cn (((l.drop 4).drop 1).take 1) 0 : Nat) : Int)) (0, (((l.drop 4).drop 1).drop 1)) (fun h => by have := h0 h; omega)).pre [] (by kernel_rfl) (Cj (((l.drop 4).drop 1).drop 1) ((cn ((l.drop 4).take 1) 0 : Nat) : Int) ((cn (((l.drop 4).drop 1).take 1) 0 : Nat) : Int)))) (ai (show (0 : Int) <= 1 /\ (1 : Int) <= (ofL ((l.drop 4).drop 1)).size from ⟨by decide, by show (1 : Int) <= (((l.drop 4).drop 1).length : Nat); rw [List.length_drop, List.length_drop]; omega⟩) (ai (show IntKind.i64.wrap ((cn (((l.drop 4).drop 1).take 1) 0 : Nat) : Int) = ((cn (((l.drop 4).drop 1).take 1) 0 : Nat) : Int) from qc (by have := qJ (((l.drop 4).drop 1).take 1) 0; omega)) (ai (show (0 : Int) <= 0 /\ (0 : Int) < (ofL (((l.drop 4).drop 1).take 1)).size /\ ((ofL (((l.drop 4).drop 1).take 1))[(0 : Int).toNat]?.getD 0).toNat = cn (((l.drop 4).drop 1).take 1) 0 from CI (((l.drop 4).drop 1).take 1) 0 (by rw [List.length_take]; simp only [List.length_drop]; omega)) (ai (show (0 : Int) <= 1 /\ (1 : Int) <= (ofL ((l.drop 4).drop 1)).size from ⟨by decide, by show (1 : Int) <= (((l.drop 4).drop 1).length : Nat); rw [List.length_drop, List.length_drop]; omega⟩) (ai (show (0 : Int) <= 1 /\ (1 : Int) <= (ofL (l.drop 4)).size from ⟨by decide, by show (1 : Int) <= ((l.drop 4).length : Nat); rw [List.length_drop]; omega⟩) (ai (show IntKind.i64.wrap ((cn ((l.drop 4).take 1) 0 : Nat) : Int) = ((cn ((l.drop 4).take 1) 0 : Nat) : Int) from qc (by have := qJ ((l.drop 4).take 1) 0; omega)) (ai (show (0 : Int) <= 0 /\ (0 : Int) < (ofL ((l.drop 4).take 1)).size /\ ((ofL ((l.drop 4).take 1))[(0 : Int).toNat]?.getD 0).toNat = cn ((l.drop 4).take 1) 0 from CI ((l.drop 4).take 1) 0 (by rw [List.length_take]; simp only [List.length_drop]; omega)) (ai (show (0 : Int) <= 1 /\ (1 : Int) <= (ofL (l.drop 4)).size from ⟨by decide, by show (1 : Int) <= ((l.drop 4).length : Nat); rw [List.length_drop]; omega⟩) (ai (show (((ofL (l.drop 4)).size : Nat) : Int) = ((482 : Nat) : Int) from by show (((l.drop 4).length : Nat) : Int) = _; rw [List.length_drop, hn]) (ai (show (0 : Int) <= 4 /\ (4 : Int) <= (ofL l).size from ⟨by decide, by show (4 : Int) <= ((l).length : Nat); omega⟩) (ai (Gp hm).down (ai (show (0 : Int) <= 4 /\ (4 : Int) <= (ofL l).size from ⟨by decide, by show (4 : Int) <= ((l).length : Nat); omega⟩) (ai (show (((ofL l).size : Nat) : Int) = ((486 : Nat) : Int) from by show ((l.length : Nat) : Int) = _; rw [hn]) tt0)))))))))))))))))))))))
theorem X8 (l : LU0) (hn : l.length = 486) (hm : l.take 4 = mgV) (h : (qs (0, (((l.drop 4).drop 1).drop 1))).1 ≠ 0) : Gives prog 7 (AQ l) (.tp [.ag wr, vi0 (qs (0, (((l.drop 4).drop 1).drop 1))).1]) := by
 have h0 : ((0, (((l.drop 4).drop 1).drop 1)) : Int × LU0).1 = 0 -> 480 <= ((0, (((l.drop 4).drop 1).drop 1)) : Int × LU0).2.length := fun _ => by show 480 <= (((l.drop 4).drop 1).drop 1).length; simp only [List.length_drop]; omega
 exact Ay ((Jo l) ++ [(158, lpO { I := gcK (EO l) (xm l).2 (xm l).1 0, ex := .exit 2, E := gcE (Cf (EY l) (EQ l) (0, (zO l))) (tX l).2 (tX l).1, fr := 159 }), (167, wT), (176, wT), (177, lpO { kd := 5, I := gcX (tX l).2 (tX l).1, ex := .normal, E := gcY (tX l).1, fr := 184 })]) (ai (show some (gcX (tX l).2 (tX l).1) = some (gcX (tX l).2 (tX l).1) from rfl) (ai (v7 (tX l).2 (tX l).1) (ai (show ((qs (0, (((l.drop 4).drop 1).drop 1))).1 != 0) = true from by simpa using h) (ai (show ((qs (0, (((l.drop 4).drop 1).drop 1))).1 != 0) = true from by simpa using h) (ai (JV l).down (ai (yJ (EO l) (xm l) (D8 (0, (zO l)) h0)) (ai (JZ l).down (ai (((yG (vt0 ((cn ((l.drop 4).take 1) 0 : Nat) : Int) ((cn (((l.drop 4).drop 1).take 1) 0 : Nat) : Int)) (0, (((l.drop 4).drop 1).drop 1)) (fun h => by have := h0 h; omega)).pre [] (by kernel_rfl) (Cj (((l.drop 4).drop 1).drop 1) ((cn ((l.drop 4).take 1) 0 : Nat) : Int) ((cn (((l.drop 4).drop 1).take 1) 0 : Nat) : Int)))) (ai (show (0 : Int) <= 1 /\ (1 : Int) <= (ofL ((l.drop 4).drop 1)).size from ⟨by decide, by show (1 : Int) <= (((l.drop 4).drop 1).length : Nat); rw [List.length_drop, List.length_drop]; omega⟩) (ai (show IntKind.i64.wrap ((cn (((l.drop 4).drop 1).take 1) 0 : Nat) : Int) = ((cn (((l.drop 4).drop 1).take 1) 0 : Nat) : Int) from qc (by have := qJ (((l.drop 4).drop 1).take 1) 0; omega)) (ai (show (0 : Int) <= 0 /\ (0 : Int) < (ofL (((l.drop 4).drop 1).take 1)).size /\ ((ofL (((l.drop 4).drop 1).take 1))[(0 : Int).toNat]?.getD 0).toNat = cn (((l.drop 4).drop 1).take 1) 0 from CI (((l.drop 4).drop 1).take 1) 0 (by rw [List.length_take]; simp only [List.length_drop]; omega)) (ai (show (0 : Int) <= 1 /\ (1 : Int) <= (ofL ((l.drop 4).drop 1)).size from ⟨by decide, by show (1 : Int) <= (((l.drop 4).drop 1).length : Nat); rw [List.length_drop, List.length_drop]; omega⟩) (ai (show (0 : Int) <= 1 /\ (1 : Int) <= (ofL (l.drop 4)).size from ⟨by decide, by show (1 : Int) <= ((l.drop 4).length : Nat); rw [List.length_drop]; omega⟩) (ai (show IntKind.i64.wrap ((cn ((l.drop 4).take 1) 0 : Nat) : Int) = ((cn ((l.drop 4).take 1) 0 : Nat) : Int) from qc (by have := qJ ((l.drop 4).take 1) 0; omega)) (ai (show (0 : Int) <= 0 /\ (0 : Int) < (ofL ((l.drop 4).take 1)).size /\ ((ofL ((l.drop 4).take 1))[(0 : Int).toNat]?.getD 0).toNat = cn ((l.drop 4).take 1) 0 from CI ((l.drop 4).take 1) 0 (by rw [List.length_take]; simp only [List.length_drop]; omega)) (ai (show (0 : Int) <= 1 /\ (1 : Int) <= (ofL (l.drop 4)).size from ⟨by decide, by show (1 : Int) <= ((l.drop 4).length : Nat); rw [List.length_drop]; omega⟩) (ai (show (((ofL (l.drop 4)).size : Nat) : Int) = ((482 : Nat) : Int) from by show (((l.drop 4).length : Nat) : Int) = _; rw [List.length_drop, hn]) (ai (show (0 : Int) <= 4 /\ (4 : Int) <= (ofL l).size from ⟨by decide, by show (4 : Int) <= ((l).length : Nat); omega⟩) (ai (Gp hm).down (ai (show (0 : Int) <= 4 /\ (4 : Int) <= (ofL l).size from ⟨by decide, by show (4 : Int) <= ((l).length : Nat); omega⟩) (ai (show (((ofL l).size : Nat) : Int) = ((486 : Nat) : Int) from by show ((l.length : Nat) : Int) = _; rw [hn]) tt0)))))))))))))))))))))
abbrev CJ (l : LU0) := vvA (vt0 0 0) (fun j => rvl 48 g1V p1z (nst 48 g1E j (3, l.drop 4))) 5
def QZ {l : LU0} (hn : 4 <= l.length) := PLift.up (ai (show (0 : Int) <= 4 /\ (4 : Int) <= (ofL l).size from ⟨by decide, by show (4 : Int) <= ((l).length : Nat); omega⟩) (ai (show decide ((((ofL l).size : Nat) : Int) < 4) = false from decide_eq_false (by show ¬ ((l.length : Nat) : Int) < 4; omega)) tt0))
abbrev ww (l : LU0) := nst 48 g1E 5 (3, l.drop 4)
abbrev uT (l : LU0) := qs (3, l.drop 4)
def SV (l : LU0) := PLift.up (show ((qs (3, l.drop 4)).1 != 0) = true from by rw [Ag (st := (3, l.drop 4)) (show (3 : Int) ≠ 0 by decide)]; rfl)
theorem agm (l : LU0) (hn : 4 <= l.length) (hm : l.take 4 = mgV) (hx : l.length ≠ 486) : Gives prog 7 (AQ l) (.tp [.ag wr, vi0 (qs (3, l.drop 4)).1]) := by
 have h0 : ((3, l.drop 4) : Int × LU0).1 = 0 -> 480 <= ((3, l.drop 4) : Int × LU0).2.length := fun h => absurd (show (3 : Int) = 0 from h) (by decide)
 exact Ay [(9, wF), (14, rO 5 0), (16, wF), (21, rO 5 0), (34, wT), (78, lpO { I := Q7 (l.drop 4), ex := .exit 0, E := gcE (CJ l) (ww l).2 (ww l).1, fr := 79 }), (80, lpO { I := gcK (CJ l) (ww l).2 (ww l).1 0, ex := .exit 2, E := gcE (Cf 0 0 (3, l.drop 4)) (uT l).2 (uT l).1, fr := 81 }), (89, wT), (98, wT), (99, lpO { kd := 5, I := gcX (uT l).2 (uT l).1, ex := .normal, E := gcY (uT l).1, fr := 106 })] (ai (show some (gcX (uT l).2 (uT l).1) = some (gcX (uT l).2 (uT l).1) from rfl) (ai (v7 (uT l).2 (uT l).1) (ai (SV l).down (ai (SV l).down (ai (show some (gcK (CJ l) (ww l).2 (ww l).1 0) = some (gcK (CJ l) (ww l).2 (ww l).1 0) from rfl) (ai (yJ (CJ l) (ww l) (D8 (3, l.drop 4) h0)) (ai (show some (Q7 (l.drop 4)) = some (Q7 (l.drop 4)) from rfl) (ai (((yG (vt0 0 0) (3, l.drop 4) (fun h => by have := h0 h; omega)).pre [(36, 48)] (by kernel_rfl) (Tz (l.drop 4)))) (ai (show ((((ofL (l.drop 4)).size : Nat) : Int) != 482) = true from by
    have h1 : (((l.drop 4).length : Nat) : Int) ≠ 482 := by rw [List.length_drop]; omega
    exact bne_iff_ne.2 h1) (ai (show (0 : Int) <= 4 /\ (4 : Int) <= (ofL l).size from ⟨by decide, by show (4 : Int) <= ((l).length : Nat); omega⟩) (ai (Gp hm).down
   (QZ hn).down)))))))))))
abbrev DP := vvA (vt0 0 0) (fun j => rvl 48 g1V p1z (nst 48 g1E j (80, []))) 5
abbrev yT := nst 48 g1E 5 (80, [])
def FW := PLift.up (show ((qs (80, [])).1 != 0) = true from by rw [Ag (st := (80, [])) (show (80 : Int) ≠ 0 by decide)]; rfl)
def O7 : Nat × Ora := (71, lpO { I := gcK DP yT.2 yT.1 0, ex := .exit 2, E := gcE (Cf 0 0 (80, [])) (qs (80, [])).2 (qs (80, [])).1, fr := 72 })
abbrev GA := gcX (qs (80, [])).2 (qs (80, [])).1
def SF : Nat × Ora := (90, lpO { kd := 5, I := gcX (qs (80, [])).2 (qs (80, [])).1, ex := .normal, E := gcY (qs (80, [])).1, fr := 97 })
def Rf := PLift.up (show some (gcK DP yT.2 yT.1 0) = some (gcK DP yT.2 yT.1 0) from rfl)
def R0 : Nat × Ora := (69, lpO { I := K5, ex := .exit 0, E := gcE DP yT.2 yT.1, fr := 70 })
theorem af8 (l : LU0) (hn : l.length < 4) : Gives prog 7 (AQ l) (.tp [.ag wr, vi0 (qs (80, [])).1]) := by
 have h0 : ((80, []) : Int × LU0).1 = 0 -> 480 <= ((80, []) : Int × LU0).2.length := fun h => absurd (show (80 : Int) = 0 from h) (by decide)
 exact Ay [(9, wT), R0, O7, (80, wT), (89, wT), SF] (ai (show some GA = some GA from rfl) (ai (v7 (qs (80, [])).2 (qs (80, [])).1) (ai FW.down (ai FW.down (ai Rf.down (ai (yJ DP yT (D8 (80, []) h0)) (ai (show some (K5) = some (K5) from rfl) (ai (((yG (vt0 0 0) (80, []) (fun h => by have := h0 h; omega)).pre [(23, 19), (36, 39)] (by kernel_rfl) (HL))) (ai (show decide ((((ofL l).size : Nat) : Int) < 4) = true from decide_eq_true (by show  ((l.length : Nat) : Int) < 4; omega)) tt0)))))))))
theorem agz (l : LU0) (hn : 4 <= l.length) (hm : l.take 4 ≠ mgV) : Gives prog 7 (AQ l) (.tp [.ag wr, vi0 (qs (80, [])).1]) := by
 have h0 : ((80, []) : Int × LU0).1 = 0 -> 480 <= ((80, []) : Int × LU0).2.length := fun h => absurd (show (80 : Int) = 0 from h) (by decide)
 exact Ay [(9, wF), (14, rO 5 0), (16, wT), R0, O7, (80, wT), (89, wT), SF] (ai (show some GA = some GA from rfl) (ai (v7 (qs (80, [])).2 (qs (80, [])).1) (ai FW.down (ai FW.down (ai Rf.down (ai (yJ DP yT (D8 (80, []) h0)) (ai (show some (K5) = some (K5) from rfl) (ai (((yG (vt0 0 0) (80, []) (fun h => by have := h0 h; omega)).pre [(23, 19), (36, 39)] (by kernel_rfl) (HL))) (ai (show (!((ofL (l.take 4)).toList == (ofL mgV).toList)) = true from TT hm)
   (QZ hn).down)))))))))
def zo (l : LU0) : Int := if l.take 4 = mgV then (if l.length = 486 then (rst 96 g2E (qs (0, (((l.drop 4).drop 1).drop 1)))).1 else 3) else 80
def gcR (l : LU0) : VT := { Cf ((cn ((l.drop 4).take 1) 0 : Nat) : Int) ((cn (((l.drop 4).drop 1).take 1) 0 : Nat) : Int) (0, (((l.drop 4).drop 1).drop 1)) with b := g2V ((qs (0, (((l.drop 4).drop 1).drop 1))).2.take 96) }
theorem aax (l : LU0) (h : zo l = 0) : Gives prog 7 [.t (.v (.string (ofL l)))] (.tp [.ag (gcR l).ch, vi0 0]) := by
 unfold zo at h
 split at h
 ·rename_i hm
  split at h
  ·rename_i hn
   by_cases h8 : (qs (0, (((l.drop 4).drop 1).drop 1))).1 = 0
   ·have e8 : qs (0, (((l.drop 4).drop 1).drop 1)) = (0, (qs (0, (((l.drop 4).drop 1).drop 1))).2) := Prod.ext h8 rfl
    rw [e8, KV] at h
    exact ZY l hn hm e8 h
   ·rw [yI h8] at h; exact absurd h h8
  ·exact absurd h (by decide)
 ·exact absurd h (by decide)
theorem abb (l : LU0) (h : zo l ≠ 0) : Gives prog 7 [.t (.v (.string (ofL l)))] (.tp [.ag wr, vi0 (zo l)]) := by
 unfold zo at h ⊢
 by_cases hm : l.take 4 = mgV
 ·have h4 : 4 <= l.length := by
   have := congrArg List.length hm
   rw [List.length_take] at this
   have h5 : mgV.length = 4 := rfl
   omega
  rw [if_pos hm] at h ⊢
  by_cases hn : l.length = 486
  ·rw [if_pos hn] at h ⊢
   by_cases h8 : (qs (0, (((l.drop 4).drop 1).drop 1))).1 = 0
   ·have e8 : qs (0, (((l.drop 4).drop 1).drop 1)) = (0, (qs (0, (((l.drop 4).drop 1).drop 1))).2) := Prod.ext h8 rfl
    have e9 : (rst 96 g2E (qs (0, (((l.drop 4).drop 1).drop 1)))).1 = g2E ((qs (0, (((l.drop 4).drop 1).drop 1))).2.take 96) := congrArg Prod.fst (if_pos h8)
    rw [e9] at h ⊢
    exact aa6 l hn hm e8 h
   ·rw [yI h8]
    exact X8 l hn hm h8
  ·rw [if_neg hn]
   have e := agm l h4 hm hn
   rw [Ag (st := (3, l.drop 4)) (show (3 : Int) ≠ 0 by decide)] at e
   exact e
 ·rw [if_neg hm]
  have e : (qs (80, [])).1 = 80 := by rw [Ag (st := (80, [])) (show (80 : Int) ≠ 0 by decide)]
  rw [← e]
  by_cases h4 : l.length < 4
  ·exact af8 l h4
  ·exact agz l (by omega) hm
end Go.Proofs.YtokjhbmmdmeafaaGreat
set_option linter.unusedSimpArgs false
set_option linter.unusedVariables false
namespace Go.Proofs.YtokjhbmmdmeafaaGreat
open Go.Ev Go.RowKit
open Tryz
def zk : List Ch := [.c (.slice none 0 0)] ++ M3
theorem aft (C : List Value) (a : A1) : flat [.l C, .n 6 a.1, .n 6 a.2.1, .c (.bool a.2.2)] = flat [.l (C ++ ptC a)] := by simp [flat, Ch.cells, ptC, ptP]
theorem aeT (a : A1) : flat [.n 6 a.1, .n 6 a.2.1, .c (.bool a.2.2)] = flat [.l (ptC a)] := by simp [flat, Ch.cells, ptC, ptP]
theorem S7 (a b : List Ch) : flat (a ++ b) = flat a ++ flat b := by
 induction a with
 | nil => rfl
 | cons c l ih => simp only [List.cons_append, flat, ih, List.append_assoc]
theorem HI : flat qI = ptC p1z := by kernel_rfl
theorem acK (C : List Value) : flat ([.l C] ++ qI) = flat [.l (C ++ ptC p1z)] := by
 rw [S7, HI]; simp [flat, Ch.cells]
theorem XC : flat qI = flat [.l (ptC p1z)] := by rw [HI, CN]
def gkZ (N : Nat) (sb : LU0) (e : Int) : LState := { n := 42, sl := [(2, .p 0 0), (4, .p 23 0), (6, .p 106 0), (17, vi0 (N : Int)), (18, vi0 0)], hp := [(0, .own zk 54), (23, .own [.c (.string (ofL sb)), ci0 e] 85), (106, .own zk 54)] }
def gkI (N : Nat) (C : List Value) (i : Nat) (sb : LU0) (e : Int) : LState := { n := 42, sl := [(2, .p 0 0), (4, .p 23 0), (6, .p 106 0), (17, vi0 (N : Int)), (18, vi0 (i : Int))], hp := [(0, .own zk 54), (23, .own [.c (.string (ofL sb)), ci0 e] 85), (106, .own ([.sx 24 i] ++ M3) 54), (24, .gr [.l C] 26 13)] }
def vW (N : Nat) (P : List Ch) (z : Int) (m : Nat) (sb : LU0) (e : Int) : LState := { n := 42, sl := [(2, .p 0 0), (4, .p 23 0), (6, .p 106 0), (17, vi0 (N : Int)), (18, vi0 z)], hp := [(0, .own zk 54), (23, .own [.c (.string (ofL sb)), ci0 e] 85), (106, .own ([.sx 160 m] ++ M3) 54), (160, .gr P 26 13)] }
def DF (N : Nat) (P : List Ch) (z : Int) (m : Nat) (sb : LU0) (e : Int) : LState := { n := 42, sl := [(2, .p 0 0), (4, .p 23 0), (6, .p 106 0), (17, vi0 (N : Int)), (18, vi0 z)], hp := [(0, .own zk 54), (23, .own [.c (.string (ofL sb)), ci0 e] 85), (106, .own ([.sx 121 m] ++ M3) 54), (121, .gr P 26 13)] }
def Ze (sb : LU0) (e : Int) : LState := { n := 42, sl := [(2, .p 0 0), (4, .p 23 0), (6, .p 106 0)], hp := [(0, .own zk 54), (23, .own [.c (.string (ofL sb)), ci0 e] 85), (106, .own zk 54)] }
def gkE (C : List Value) (i : Nat) (sb : LU0) (e : Int) : LState := { n := 42, sl := [(2, .p 0 0), (4, .p 23 0), (6, .p 106 0)], hp := [(0, .own zk 54), (23, .own [.c (.string (ofL sb)), ci0 e] 85), (106, .own ([.sx 24 i] ++ M3) 54), (24, .gr [.l C] 26 13)] }
abbrev AO (a : AA) (e : Ex) (b : AA) : Prop := Sound prog 0 false (Bl f10 0) a e b
theorem OP (N : Nat) (sb : LU0) (hl : 48 <= sb.length) (h : (g1E (sb.take 48)) = 0) : AO (gkZ N sb 0).aa .normal (vW N (pt1 (g1V (sb.take 48))) 0 1 (sb.drop 48) (g1E (sb.take 48))).aa := by
 have hL : ((((g1E (sb.take 48)) != 0) = false) /\ (((0 : Int) <= 48 /\ (48 : Int) <= (ofL sb).size) /\ (((0 : Int) <= 48 /\ (48 : Int) <= (ofL sb).size) /\ (True)))) /\ (some (vW N (pt1 (g1V (sb.take 48))) 0 1 (sb.drop 48) (g1E (sb.take 48))) = some (vW N (pt1 (g1V (sb.take 48))) 0 1 (sb.drop 48) (g1E (sb.take 48)))) := ⟨⟨by rw [h]; rfl, ⟨⟨by decide, by show (48 : Int) <= (sb.length : Nat); omega⟩, ⟨⟨by decide, by show (48 : Int) <= (sb.length : Nat); omega⟩, tt0⟩⟩⟩, rfl⟩
 exact qn (P := prog) (X := pN _) (env := [rf, rR]) ⟨qA, qN, tt0⟩ (rH (P := prog) (X := pN _) (env := [rf, rR]) (os := oL [(124, rO 5 0), (138, rO 5 0), (156, wF)]) ⟨qA, qN, tt0⟩ 3) (os := oL []) (fb := 0) (k := 110) (I := gkZ N sb 0) (E := vW N (pt1 (g1V (sb.take 48))) 0 1 (sb.drop 48) (g1E (sb.take 48))) (by kernel_rfl) (ai (ai (ai (ai (ai (ai (ai (ai hL tt0) tt0) tt0) tt0) tt0) tt0) (ai (ai (ai (ai (ai (ai (ai hL tt0) tt0) tt0) tt0) tt0) (ai (ai (ai (ai (ai (ai hL tt0) tt0) tt0) tt0) (ai (ai (ai (ai (ai hL tt0) tt0) tt0) tt0) tt0)) tt0)) tt0)) (ai (ai (ai (ai (ai (ai (ai (ai hL tt0) tt0) tt0) tt0) tt0) (ai (ai (ai (ai (ai (ai hL tt0) tt0) tt0) tt0) (ai (ai (ai (ai (ai hL tt0) tt0) tt0) tt0) tt0)) tt0)) (ai (ai (ai (ai (ai (ai (ai hL tt0) tt0) tt0) tt0) (ai (ai (ai (ai (ai hL tt0) tt0) tt0) tt0) tt0)) (ai (ai (ai (ai (ai (ai hL tt0) tt0) tt0) tt0) tt0) tt0)) tt0)) tt0))
abbrev so := pU (.int .u64 0)
abbrev Xv := 54 = 54 /\ (qU 1) /\ so /\ so /\ so /\ so /\ so /\ so /\ so /\ so /\ so /\ so /\ so /\ so /\ so /\ so /\ so /\ so /\ so /\ so /\ so /\ so /\ so /\ so /\ so /\ so /\ (true = true /\ true = true /\ [Value.bool false] = [Value.bool false]) /\ True
def K9 {N : Nat} (hi : 0 < N) := PLift.up (ai (show decide ((0 : Int) < ((N : Nat) : Int)) = true from decide_eq_true (by omega)) tt0)
theorem AY {c : Code} {I J : LState} {ex : Ex} {b : Prop} (o : LO0) (k : Nat) (τ : List (Nat × Nat)) (hb : b) (h : vK prog (pN _) [] 3 (oL o) 0 false c k I J τ = some (ex, b) := by kernel_rfl) : Sound prog 0 false c I.aa ex J.aa := qT (P := prog) (X := pN _) (env := []) trivial h hb
abbrev vM (a : AA) (e : Ex) (b : AA) : Prop := Sound prog 0 false (pS f10 0) a e b
theorem agb (N : Nat) (hi : 0 < N) (sb : LU0) (hl : 48 <= sb.length) (h : (g1E (sb.take 48)) = 0) : vM (gkZ N sb 0).aa .normal (gkI N (ptC (g1V (sb.take 48))) 1 (sb.drop 48) (g1E (sb.take 48))).aa :=
 AY [(109, wT), (110, lpO { kd := 5, I := gkZ N sb 0, ex := .normal, E := vW N (pt1 (g1V (sb.take 48))) 0 1 (sb.drop 48) (g1E (sb.take 48)), fr := 161 })] 109 [(24, 160)] (ai (show ((qU 0) /\ (qU 0) /\ (qU 0) /\ (zX (.int .i64 (N : Int))) /\ (Value.int .i64 (IntKind.i64.wrap (0 + 1))) = (Value.int .i64 ((1 : Nat) : Int)) /\ True) /\ ((tq 54 zk) /\ (tq 85 [.c (.string (ofL (sb.drop 48))), ci0 (g1E (sb.take 48))]) /\ Xv /\ ((26 = 26 /\ 13 = 13) /\ flat (pt1 (g1V (sb.take 48))) = flat [.l (ptC (g1V (sb.take 48)))]) /\ True) from ⟨⟨rr0, rr0, rr0, rfl, rfl, tt0⟩, rr0, rr0, ⟨rfl, ⟨rr0, r30, r30, r30, r30, r30, r30, r30, r30, r30, r30, r30, r30, r30, r30, r30, r30, r30, r30, r30, r30, r30, r30, r30, r30, r30, tt0⟩⟩, ⟨rr0, aeT _⟩, tt0⟩) (ai (show some (gkZ N sb 0) = some (gkZ N sb 0) from rfl) (ai (OP N sb hl h)
   (K9 hi).down)))
theorem SL (N : Nat) (sb : LU0) (hl : 48 <= sb.length) (h : (g1E (sb.take 48)) ≠ 0) : AO (gkZ N sb 0).aa .normal (vW N (qI) 0 1 (sb.drop 48) (g1E (sb.take 48))).aa := by
 have hL : ((((g1E (sb.take 48)) != 0) = true) /\ (((0 : Int) <= 48 /\ (48 : Int) <= (ofL sb).size) /\ (((0 : Int) <= 48 /\ (48 : Int) <= (ofL sb).size) /\ (True)))) /\ (some (vW N (qI) 0 1 (sb.drop 48) (g1E (sb.take 48))) = some (vW N (qI) 0 1 (sb.drop 48) (g1E (sb.take 48)))) := ⟨⟨by simpa using h, ⟨⟨by decide, by show (48 : Int) <= (sb.length : Nat); omega⟩, ⟨⟨by decide, by show (48 : Int) <= (sb.length : Nat); omega⟩, tt0⟩⟩⟩, rfl⟩
 exact qn (P := prog) (X := pN _) (env := [rf, rR]) ⟨qA, qN, tt0⟩ (rH (P := prog) (X := pN _) (env := [rf, rR]) (os := oL [(124, rO 5 0), (138, rO 5 0), (156, wT)]) ⟨qA, qN, tt0⟩ 3) (os := oL []) (fb := 0) (k := 110) (I := gkZ N sb 0) (E := vW N (qI) 0 1 (sb.drop 48) (g1E (sb.take 48))) (by kernel_rfl) (ai (ai (ai (ai (ai (ai (ai (ai hL tt0) tt0) tt0) tt0) tt0) tt0) (ai (ai (ai (ai (ai (ai (ai hL tt0) tt0) tt0) tt0) tt0) (ai (ai (ai (ai (ai (ai hL tt0) tt0) tt0) tt0) (ai (ai (ai (ai (ai hL tt0) tt0) tt0) tt0) tt0)) tt0)) tt0)) (ai (ai (ai (ai (ai (ai (ai (ai hL tt0) tt0) tt0) tt0) tt0) (ai (ai (ai (ai (ai (ai hL tt0) tt0) tt0) tt0) (ai (ai (ai (ai (ai hL tt0) tt0) tt0) tt0) tt0)) tt0)) (ai (ai (ai (ai (ai (ai (ai hL tt0) tt0) tt0) tt0) (ai (ai (ai (ai (ai hL tt0) tt0) tt0) tt0) tt0)) (ai (ai (ai (ai (ai (ai hL tt0) tt0) tt0) tt0) tt0) tt0)) tt0)) tt0))
theorem ae8 (N : Nat) (hi : 0 < N) (sb : LU0) (hl : 48 <= sb.length) (h : (g1E (sb.take 48)) ≠ 0) : vM (gkZ N sb 0).aa .normal (gkI N (ptC (g1V (sb.take 48))) 1 (sb.drop 48) (g1E (sb.take 48))).aa :=
 AY [(109, wT), (110, lpO { kd := 5, I := gkZ N sb 0, ex := .normal, E := vW N (qI) 0 1 (sb.drop 48) (g1E (sb.take 48)), fr := 161 })] 109 [(24, 160)] (ai (show ((qU 0) /\ (qU 0) /\ (qU 0) /\ (zX (.int .i64 (N : Int))) /\ (Value.int .i64 (IntKind.i64.wrap (0 + 1))) = (Value.int .i64 ((1 : Nat) : Int)) /\ True) /\ ((tq 54 zk) /\ (tq 85 [.c (.string (ofL (sb.drop 48))), ci0 (g1E (sb.take 48))]) /\ (54 = 54 /\ (qU 1) /\ (pU (.int .u64 0)) /\ (pU (.int .u64 0)) /\ (pU (.int .u64 0)) /\ (pU (.int .u64 0)) /\ (pU (.int .u64 0)) /\ (pU (.int .u64 0)) /\ (pU (.int .u64 0)) /\ (pU (.int .u64 0)) /\ (pU (.int .u64 0)) /\ (pU (.int .u64 0)) /\ (pU (.int .u64 0)) /\ (pU (.int .u64 0)) /\ (pU (.int .u64 0)) /\ (pU (.int .u64 0)) /\ (pU (.int .u64 0)) /\ (pU (.int .u64 0)) /\ (pU (.int .u64 0)) /\ (pU (.int .u64 0)) /\ (pU (.int .u64 0)) /\ (pU (.int .u64 0)) /\ (pU (.int .u64 0)) /\ (pU (.int .u64 0)) /\ (pU (.int .u64 0)) /\ (pU (.int .u64 0)) /\ (true = true /\ true = true /\ [Value.bool false] = [Value.bool false]) /\ True) /\ ((26 = 26 /\ 13 = 13) /\ flat (qI) = flat [.l (ptC (g1V (sb.take 48)))]) /\ True) from ⟨⟨rr0, rr0, rr0, rfl, rfl, tt0⟩, rr0, rr0, ⟨rfl, ⟨rr0, r30, r30, r30, r30, r30, r30, r30, r30, r30, r30, r30, r30, r30, r30, r30, r30, r30, r30, r30, r30, r30, r30, r30, r30, r30, tt0⟩⟩, ⟨rr0, by rw [rc h]; exact XC⟩, tt0⟩) (ai (show some (gkZ N sb 0) = some (gkZ N sb 0) from rfl) (ai (SL N sb hl h)
   (K9 hi).down)))
theorem Td (N : Nat) (sb : LU0) (e : Int) (h : e ≠ 0) : AO (gkZ N sb e).aa .normal (DF N (qI) 0 1 sb e).aa := by
 have hL : (((e != 0) = true) /\ (True)) /\ (some (DF N (qI) 0 1 sb e) = some (DF N (qI) 0 1 sb e)) := ⟨⟨by simpa using h, tt0⟩, rfl⟩
 exact qn (P := prog) (X := pN _) (env := [rf, rR]) ⟨qA, qN, tt0⟩ (rH (P := prog) (X := pN _) (env := [rf, rR]) (os := oL [(117, wT)]) ⟨qA, qN, tt0⟩ 3) (os := oL []) (fb := 0) (k := 110) (I := gkZ N sb e) (E := DF N (qI) 0 1 sb e) (by kernel_rfl) (ai (ai (ai (ai (ai (ai (ai (ai hL tt0) tt0) tt0) tt0) tt0) tt0) (ai (ai (ai (ai (ai (ai (ai hL tt0) tt0) tt0) tt0) tt0) (ai (ai (ai (ai (ai (ai hL tt0) tt0) tt0) tt0) (ai (ai (ai (ai (ai hL tt0) tt0) tt0) tt0) tt0)) tt0)) tt0)) (ai (ai (ai (ai (ai (ai (ai (ai hL tt0) tt0) tt0) tt0) tt0) (ai (ai (ai (ai (ai (ai hL tt0) tt0) tt0) tt0) (ai (ai (ai (ai (ai hL tt0) tt0) tt0) tt0) tt0)) tt0)) (ai (ai (ai (ai (ai (ai (ai hL tt0) tt0) tt0) tt0) (ai (ai (ai (ai (ai hL tt0) tt0) tt0) tt0) tt0)) (ai (ai (ai (ai (ai (ai hL tt0) tt0) tt0) tt0) tt0) tt0)) tt0)) tt0))
theorem afF (N : Nat) (hi : 0 < N) (sb : LU0) (e : Int) (h : e ≠ 0) : vM (gkZ N sb e).aa .normal (gkI N (ptC p1z) 1 sb e).aa :=
 AY [(109, wT), (110, lpO { kd := 5, I := gkZ N sb e, ex := .normal, E := DF N (qI) 0 1 sb e, fr := 161 })] 109 [(24, 121)] (ai (show ((qU 0) /\ (qU 0) /\ (qU 0) /\ (zX (.int .i64 (N : Int))) /\ (Value.int .i64 (IntKind.i64.wrap (0 + 1))) = (Value.int .i64 ((1 : Nat) : Int)) /\ True) /\ ((tq 54 zk) /\ (tq 85 [.c (.string (ofL sb)), ci0 e]) /\ Xv /\ ((26 = 26 /\ 13 = 13) /\ flat (qI) = flat [.l (ptC p1z)]) /\ True) from ⟨⟨rr0, rr0, rr0, rfl, rfl, tt0⟩, rr0, rr0, ⟨rfl, ⟨rr0, r30, r30, r30, r30, r30, r30, r30, r30, r30, r30, r30, r30, r30, r30, r30, r30, r30, r30, r30, r30, r30, r30, r30, r30, r30, tt0⟩⟩, ⟨rr0, XC⟩, tt0⟩) (ai (show some (gkZ N sb e) = some (gkZ N sb e) from rfl) (ai (Td N sb e h)
   (K9 hi).down)))
def JR : LO0 := [(115, { ch := 0, hi := fun _ => 0, ex := 1 })]
theorem QA (N i : Nat) (sb : LU0) (hi : i < N) (hN : N <= 100000) (C : List Value) (hC : C.length = i * 13) (hl : 48 <= sb.length) (h : (g1E (sb.take 48)) = 0) : AO (gkI N C i sb 0).aa .normal (vW N ([.l C] ++ pt1 (g1V (sb.take 48))) (i : Int) (i + 1) (sb.drop 48) (g1E (sb.take 48))).aa := by
 have hL : ((qd [.l C] = i * 13 /\ i + 1 <= 9223372036854775807 /\ (i + 1) * 104 <= 140737488355328 /\ True) /\ ((((g1E (sb.take 48)) != 0) = false) /\ (((0 : Int) <= 48 /\ (48 : Int) <= (ofL sb).size) /\ (((0 : Int) <= 48 /\ (48 : Int) <= (ofL sb).size) /\ (True))))) /\ (some (vW N ([.l C] ++ pt1 (g1V (sb.take 48))) (i : Int) (i + 1) (sb.drop 48) (g1E (sb.take 48))) = some (vW N ([.l C] ++ pt1 (g1V (sb.take 48))) (i : Int) (i + 1) (sb.drop 48) (g1E (sb.take 48)))) := ⟨⟨⟨by show C.length + 0 = i * 13; omega, by omega, by omega, tt0⟩, ⟨by rw [h]; rfl, ⟨⟨by decide, by show (48 : Int) <= (sb.length : Nat); omega⟩, ⟨⟨by decide, by show (48 : Int) <= (sb.length : Nat); omega⟩, tt0⟩⟩⟩⟩, rfl⟩
 exact qn (P := prog) (X := pN _) (env := [rf, rR]) ⟨qA, qN, tt0⟩ (rH (P := prog) (X := pN _) (env := [rf, rR]) (os := oL [(124, rO 5 0), (138, rO 5 0), (156, wF)]) ⟨qA, qN, tt0⟩ 3) (os := oL JR) (fb := 0) (k := 110) (I := gkI N C i sb 0) (E := vW N ([.l C] ++ pt1 (g1V (sb.take 48))) (i : Int) (i + 1) (sb.drop 48) (g1E (sb.take 48))) (by kernel_rfl) (ai (ai (ai (ai (ai (ai (ai (ai hL tt0) tt0) tt0) tt0) tt0) tt0) (ai (ai (ai (ai (ai (ai (ai hL tt0) tt0) tt0) tt0) tt0) (ai (ai (ai (ai (ai (ai hL tt0) tt0) tt0) tt0) (ai (ai (ai (ai (ai hL tt0) tt0) tt0) tt0) tt0)) tt0)) tt0)) (ai (ai (ai (ai (ai (ai (ai (ai hL tt0) tt0) tt0) tt0) tt0) (ai (ai (ai (ai (ai (ai hL tt0) tt0) tt0) tt0) (ai (ai (ai (ai (ai hL tt0) tt0) tt0) tt0) tt0)) tt0)) (ai (ai (ai (ai (ai (ai (ai hL tt0) tt0) tt0) tt0) (ai (ai (ai (ai (ai hL tt0) tt0) tt0) tt0) tt0)) (ai (ai (ai (ai (ai (ai hL tt0) tt0) tt0) tt0) tt0) tt0)) tt0)) tt0))
def Jm {N : Nat} {i : Nat} (hi : i < N) (hN : N <= 100000) {C : List Value} (hC : C.length = i * 13) := PLift.up (ai (show decide (((i : Nat) : Int) < ((N : Nat) : Int)) = true from decide_eq_true (by omega)) tt0)
theorem af9 (N i : Nat) (sb : LU0) (hi : i < N) (hN : N <= 100000) (C : List Value) (hC : C.length = i * 13) (hl : 48 <= sb.length) (h : (g1E (sb.take 48)) = 0) : vM (gkI N C i sb 0).aa .normal (gkI N (C ++ ptC (g1V (sb.take 48))) (i + 1) (sb.drop 48) (g1E (sb.take 48))).aa :=
 AY [(109, wT), (110, lpO { kd := 5, I := gkI N C i sb 0, ex := .normal, E := vW N ([.l C] ++ pt1 (g1V (sb.take 48))) (i : Int) (i + 1) (sb.drop 48) (g1E (sb.take 48)), fr := 161 })] 109 [(24, 160)] (ai (show ((qU 0) /\ (qU 0) /\ (qU 0) /\ (zX (.int .i64 (N : Int))) /\ (Value.int .i64 (IntKind.i64.wrap ((i : Int) + 1))) = (Value.int .i64 ((i + 1 : Nat) : Int)) /\ True) /\ ((tq 54 zk) /\ (tq 85 [.c (.string (ofL (sb.drop 48))), ci0 (g1E (sb.take 48))]) /\ (54 = 54 /\ (qU (i + 1)) /\ (pU (.int .u64 0)) /\ (pU (.int .u64 0)) /\ (pU (.int .u64 0)) /\ (pU (.int .u64 0)) /\ (pU (.int .u64 0)) /\ (pU (.int .u64 0)) /\ (pU (.int .u64 0)) /\ (pU (.int .u64 0)) /\ (pU (.int .u64 0)) /\ (pU (.int .u64 0)) /\ (pU (.int .u64 0)) /\ (pU (.int .u64 0)) /\ (pU (.int .u64 0)) /\ (pU (.int .u64 0)) /\ (pU (.int .u64 0)) /\ (pU (.int .u64 0)) /\ (pU (.int .u64 0)) /\ (pU (.int .u64 0)) /\ (pU (.int .u64 0)) /\ (pU (.int .u64 0)) /\ (pU (.int .u64 0)) /\ (pU (.int .u64 0)) /\ (pU (.int .u64 0)) /\ (pU (.int .u64 0)) /\ (true = true /\ true = true /\ [Value.bool false] = [Value.bool false]) /\ True) /\ ((26 = 26 /\ 13 = 13) /\ flat ([.l C] ++ pt1 (g1V (sb.take 48))) = flat [.l (C ++ ptC (g1V (sb.take 48)))]) /\ True) from ⟨⟨rr0, rr0, rr0, rfl, by rw [show IntKind.i64.wrap ((i : Int) + 1) = ((i + 1 : Nat) : Int) by rw [p6]; omega], tt0⟩, rr0, rr0, ⟨rfl, ⟨rr0, r30, r30, r30, r30, r30, r30, r30, r30, r30, r30, r30, r30, r30, r30, r30, r30, r30, r30, r30, r30, r30, r30, r30, r30, r30, tt0⟩⟩, ⟨rr0, aft C _⟩, tt0⟩) (ai (show some (gkI N C i sb 0) = some (gkI N C i sb 0) from rfl) (ai (QA N i sb hi hN C hC hl h)
   (Jm hi hN hC).down)))
theorem Q6 (N i : Nat) (sb : LU0) (hi : i < N) (hN : N <= 100000) (C : List Value) (hC : C.length = i * 13) (hl : 48 <= sb.length) (h : (g1E (sb.take 48)) ≠ 0) : AO (gkI N C i sb 0).aa .normal (vW N ([.l C] ++ qI) (i : Int) (i + 1) (sb.drop 48) (g1E (sb.take 48))).aa := by
 have hL : ((qd [.l C] = i * 13 /\ i + 1 <= 9223372036854775807 /\ (i + 1) * 104 <= 140737488355328 /\ True) /\ ((((g1E (sb.take 48)) != 0) = true) /\ (((0 : Int) <= 48 /\ (48 : Int) <= (ofL sb).size) /\ (((0 : Int) <= 48 /\ (48 : Int) <= (ofL sb).size) /\ (True))))) /\ (some (vW N ([.l C] ++ qI) (i : Int) (i + 1) (sb.drop 48) (g1E (sb.take 48))) = some (vW N ([.l C] ++ qI) (i : Int) (i + 1) (sb.drop 48) (g1E (sb.take 48)))) := ⟨⟨⟨by show C.length + 0 = i * 13; omega, by omega, by omega, tt0⟩, ⟨by simpa using h, ⟨⟨by decide, by show (48 : Int) <= (sb.length : Nat); omega⟩, ⟨⟨by decide, by show (48 : Int) <= (sb.length : Nat); omega⟩, tt0⟩⟩⟩⟩, rfl⟩
 exact qn (P := prog) (X := pN _) (env := [rf, rR]) ⟨qA, qN, tt0⟩ (rH (P := prog) (X := pN _) (env := [rf, rR]) (os := oL [(124, rO 5 0), (138, rO 5 0), (156, wT)]) ⟨qA, qN, tt0⟩ 3) (os := oL JR) (fb := 0) (k := 110) (I := gkI N C i sb 0) (E := vW N ([.l C] ++ qI) (i : Int) (i + 1) (sb.drop 48) (g1E (sb.take 48))) (by kernel_rfl) (ai (ai (ai (ai (ai (ai (ai (ai hL tt0) tt0) tt0) tt0) tt0) tt0) (ai (ai (ai (ai (ai (ai (ai hL tt0) tt0) tt0) tt0) tt0) (ai (ai (ai (ai (ai (ai hL tt0) tt0) tt0) tt0) (ai (ai (ai (ai (ai hL tt0) tt0) tt0) tt0) tt0)) tt0)) tt0)) (ai (ai (ai (ai (ai (ai (ai (ai hL tt0) tt0) tt0) tt0) tt0) (ai (ai (ai (ai (ai (ai hL tt0) tt0) tt0) tt0) (ai (ai (ai (ai (ai hL tt0) tt0) tt0) tt0) tt0)) tt0)) (ai (ai (ai (ai (ai (ai (ai hL tt0) tt0) tt0) tt0) (ai (ai (ai (ai (ai hL tt0) tt0) tt0) tt0) tt0)) (ai (ai (ai (ai (ai (ai hL tt0) tt0) tt0) tt0) tt0) tt0)) tt0)) tt0))
theorem afS (N i : Nat) (sb : LU0) (hi : i < N) (hN : N <= 100000) (C : List Value) (hC : C.length = i * 13) (hl : 48 <= sb.length) (h : (g1E (sb.take 48)) ≠ 0) : vM (gkI N C i sb 0).aa .normal (gkI N (C ++ ptC (g1V (sb.take 48))) (i + 1) (sb.drop 48) (g1E (sb.take 48))).aa :=
 AY [(109, wT), (110, lpO { kd := 5, I := gkI N C i sb 0, ex := .normal, E := vW N ([.l C] ++ qI) (i : Int) (i + 1) (sb.drop 48) (g1E (sb.take 48)), fr := 161 })] 109 [(24, 160)] (ai (show ((qU 0) /\ (qU 0) /\ (qU 0) /\ (zX (.int .i64 (N : Int))) /\ (Value.int .i64 (IntKind.i64.wrap ((i : Int) + 1))) = (Value.int .i64 ((i + 1 : Nat) : Int)) /\ True) /\ ((tq 54 zk) /\ (tq 85 [.c (.string (ofL (sb.drop 48))), ci0 (g1E (sb.take 48))]) /\ (54 = 54 /\ (qU (i + 1)) /\ (pU (.int .u64 0)) /\ (pU (.int .u64 0)) /\ (pU (.int .u64 0)) /\ (pU (.int .u64 0)) /\ (pU (.int .u64 0)) /\ (pU (.int .u64 0)) /\ (pU (.int .u64 0)) /\ (pU (.int .u64 0)) /\ (pU (.int .u64 0)) /\ (pU (.int .u64 0)) /\ (pU (.int .u64 0)) /\ (pU (.int .u64 0)) /\ (pU (.int .u64 0)) /\ (pU (.int .u64 0)) /\ (pU (.int .u64 0)) /\ (pU (.int .u64 0)) /\ (pU (.int .u64 0)) /\ (pU (.int .u64 0)) /\ (pU (.int .u64 0)) /\ (pU (.int .u64 0)) /\ (pU (.int .u64 0)) /\ (pU (.int .u64 0)) /\ (pU (.int .u64 0)) /\ (pU (.int .u64 0)) /\ (true = true /\ true = true /\ [Value.bool false] = [Value.bool false]) /\ True) /\ ((26 = 26 /\ 13 = 13) /\ flat ([.l C] ++ qI) = flat [.l (C ++ ptC (g1V (sb.take 48)))]) /\ True) from ⟨⟨rr0, rr0, rr0, rfl, by rw [show IntKind.i64.wrap ((i : Int) + 1) = ((i + 1 : Nat) : Int) by rw [p6]; omega], tt0⟩, rr0, rr0, ⟨rfl, ⟨rr0, r30, r30, r30, r30, r30, r30, r30, r30, r30, r30, r30, r30, r30, r30, r30, r30, r30, r30, r30, r30, r30, r30, r30, r30, r30, tt0⟩⟩, ⟨rr0, by rw [rc h]; exact acK C⟩, tt0⟩) (ai (show some (gkI N C i sb 0) = some (gkI N C i sb 0) from rfl) (ai (Q6 N i sb hi hN C hC hl h)
   (Jm hi hN hC).down)))
theorem PX (N i : Nat) (sb : LU0) (hi : i < N) (hN : N <= 100000) (C : List Value) (hC : C.length = i * 13) (e : Int) (h : e ≠ 0) : AO (gkI N C i sb e).aa .normal (DF N ([.l C] ++ qI) (i : Int) (i + 1) sb e).aa := by
 have hL : ((qd [.l C] = i * 13 /\ i + 1 <= 9223372036854775807 /\ (i + 1) * 104 <= 140737488355328 /\ True) /\ (((e != 0) = true) /\ (True))) /\ (some (DF N ([.l C] ++ qI) (i : Int) (i + 1) sb e) = some (DF N ([.l C] ++ qI) (i : Int) (i + 1) sb e)) := ⟨⟨⟨by show C.length + 0 = i * 13; omega, by omega, by omega, tt0⟩, ⟨by simpa using h, tt0⟩⟩, rfl⟩
 exact qn (P := prog) (X := pN _) (env := [rf, rR]) ⟨qA, qN, tt0⟩ (rH (P := prog) (X := pN _) (env := [rf, rR]) (os := oL [(117, wT)]) ⟨qA, qN, tt0⟩ 3) (os := oL JR) (fb := 0) (k := 110) (I := gkI N C i sb e) (E := DF N ([.l C] ++ qI) (i : Int) (i + 1) sb e) (by kernel_rfl) (ai (ai (ai (ai (ai (ai (ai (ai hL tt0) tt0) tt0) tt0) tt0) tt0) (ai (ai (ai (ai (ai (ai (ai hL tt0) tt0) tt0) tt0) tt0) (ai (ai (ai (ai (ai (ai hL tt0) tt0) tt0) tt0) (ai (ai (ai (ai (ai hL tt0) tt0) tt0) tt0) tt0)) tt0)) tt0)) (ai (ai (ai (ai (ai (ai (ai (ai hL tt0) tt0) tt0) tt0) tt0) (ai (ai (ai (ai (ai (ai hL tt0) tt0) tt0) tt0) (ai (ai (ai (ai (ai hL tt0) tt0) tt0) tt0) tt0)) tt0)) (ai (ai (ai (ai (ai (ai (ai hL tt0) tt0) tt0) tt0) (ai (ai (ai (ai (ai hL tt0) tt0) tt0) tt0) tt0)) (ai (ai (ai (ai (ai (ai hL tt0) tt0) tt0) tt0) tt0) tt0)) tt0)) tt0))
theorem afT (N i : Nat) (sb : LU0) (hi : i < N) (hN : N <= 100000) (C : List Value) (hC : C.length = i * 13) (e : Int) (h : e ≠ 0) : vM (gkI N C i sb e).aa .normal (gkI N (C ++ ptC p1z) (i + 1) sb e).aa :=
 AY [(109, wT), (110, lpO { kd := 5, I := gkI N C i sb e, ex := .normal, E := DF N ([.l C] ++ qI) (i : Int) (i + 1) sb e, fr := 161 })] 109 [(24, 121)] (ai (show ((qU 0) /\ (qU 0) /\ (qU 0) /\ (zX (.int .i64 (N : Int))) /\ (Value.int .i64 (IntKind.i64.wrap ((i : Int) + 1))) = (Value.int .i64 ((i + 1 : Nat) : Int)) /\ True) /\ ((tq 54 zk) /\ (tq 85 [.c (.string (ofL sb)), ci0 e]) /\ (54 = 54 /\ (qU (i + 1)) /\ (pU (.int .u64 0)) /\ (pU (.int .u64 0)) /\ (pU (.int .u64 0)) /\ (pU (.int .u64 0)) /\ (pU (.int .u64 0)) /\ (pU (.int .u64 0)) /\ (pU (.int .u64 0)) /\ (pU (.int .u64 0)) /\ (pU (.int .u64 0)) /\ (pU (.int .u64 0)) /\ (pU (.int .u64 0)) /\ (pU (.int .u64 0)) /\ (pU (.int .u64 0)) /\ (pU (.int .u64 0)) /\ (pU (.int .u64 0)) /\ (pU (.int .u64 0)) /\ (pU (.int .u64 0)) /\ (pU (.int .u64 0)) /\ (pU (.int .u64 0)) /\ (pU (.int .u64 0)) /\ (pU (.int .u64 0)) /\ (pU (.int .u64 0)) /\ (pU (.int .u64 0)) /\ (pU (.int .u64 0)) /\ (true = true /\ true = true /\ [Value.bool false] = [Value.bool false]) /\ True) /\ ((26 = 26 /\ 13 = 13) /\ flat ([.l C] ++ qI) = flat [.l (C ++ ptC p1z)]) /\ True) from ⟨⟨rr0, rr0, rr0, rfl, by rw [show IntKind.i64.wrap ((i : Int) + 1) = ((i + 1 : Nat) : Int) by rw [p6]; omega], tt0⟩, rr0, rr0, ⟨rfl, ⟨rr0, r30, r30, r30, r30, r30, r30, r30, r30, r30, r30, r30, r30, r30, r30, r30, r30, r30, r30, r30, r30, r30, r30, r30, r30, r30, tt0⟩⟩, ⟨rr0, acK C⟩, tt0⟩) (ai (show some (gkI N C i sb e) = some (gkI N C i sb e) from rfl) (ai (PX N i sb hi hN C hC e h)
   (Jm hi hN hC).down)))
theorem FK (N : Nat) (hN : N = 0) (sb : LU0) (e : Int) : vM (gkZ N sb e).aa (.exit 0) (Ze sb e).aa :=
 GB [(109, wF)] 109 [2, 4, 6] [0, 23, 106] (ai (show decide ((0 : Int) < ((N : Nat) : Int)) = false from decide_eq_false (by omega)) tt0)
theorem Yp (N : Nat) (C : List Value) (sb : LU0) (e : Int) : vM (gkI N C N sb e).aa (.exit 0) (gkE C N sb e).aa :=
 GB [(109, wF)] 109 [2, 4, 6] [0, 23, 106, 24] (ai (show decide (((N : Nat) : Int) < ((N : Nat) : Int)) = false from decide_eq_false (by omega)) tt0)
def gkV (st : Int × LU0) (j : Nat) : A1 := rvl 48 g1V p1z (nst 48 g1E j st)
def gkVs (st : Int × LU0) (i : Nat) : List A1 := (List.range i).map (gkV st)
theorem En (st : Int × LU0) (i : Nat) : qO (gkVs st (i + 1)) = qO (gkVs st i) ++ ptC (gkV st i) := by
 unfold gkVs
 rw [List.range_succ, List.map_append]
 simp [qO]
theorem Bo : ∀ l : List A1, (qO l).length = l.length * 13
 | [] => rfl
 | g :: l => by
  have ih := Bo l
  simp only [qO, List.flatMap_cons, List.length_append, CZ, List.length_cons] at ih ⊢
  omega
theorem Su (st : Int × LU0) (i : Nat) : (qO (gkVs st i)).length = i * 13 := by
 rw [Bo]; simp [gkVs]
theorem gkz (N : Nat) (hi : 0 < N) (st : Int × LU0) (hl : st.1 = 0 -> 48 <= st.2.length) : vM (gkZ N st.2 st.1).aa .normal (gkI N (ptC (rvl 48 g1V p1z st)) 1 (rst 48 g1E st).2 (rst 48 g1E st).1).aa := by
 obtain ⟨e, sb⟩ := st
 by_cases h : e = 0
 ·subst h
  by_cases h1 : g1E (sb.take 48) = 0
  ·exact agb N hi sb (hl rfl) h1
  ·exact ae8 N hi sb (hl rfl) h1
 ·rw [show rst 48 g1E (e, sb) = (e, sb) from if_neg h, show rvl 48 g1V p1z (e, sb) = p1z from if_neg h]
  exact afF N hi sb e h
theorem gkr (N i : Nat) (hi : i < N) (hN : N <= 100000) (C : List Value) (hC : C.length = i * 13) (st : Int × LU0) (hl : st.1 = 0 -> 48 <= st.2.length) : vM (gkI N C i st.2 st.1).aa .normal (gkI N (C ++ ptC (rvl 48 g1V p1z st)) (i + 1) (rst 48 g1E st).2 (rst 48 g1E st).1).aa := by
 obtain ⟨e, sb⟩ := st
 by_cases h : e = 0
 ·subst h
  by_cases h1 : g1E (sb.take 48) = 0
  ·exact af9 N i sb hi hN C hC (hl rfl) h1
  ·exact afS N i sb hi hN C hC (hl rfl) h1
 ·rw [show rst 48 g1E (e, sb) = (e, sb) from if_neg h, show rvl 48 g1V p1z (e, sb) = p1z from if_neg h]
  exact afT N i sb hi hN C hC e h
def gkF (N : Nat) (st : Int × LU0) : Nat -> LState
 | 0 => gkZ N st.2 st.1
 | i + 1 => gkI N (qO (gkVs st (i + 1))) (i + 1) (nst 48 g1E (i + 1) st).2 (nst 48 g1E (i + 1) st).1
theorem ZJ (N : Nat) (st : Int × LU0) (h0 : st.1 = 0 -> 48 * N <= st.2.length) (i : Nat) (hi : i < N) : (nst 48 g1E i st).1 = 0 -> 48 <= (nst 48 g1E i st).2.length := by
 intro h
 obtain ⟨h1, h2, _⟩ := qh i st h
 rw [h2]
 show 48 <= (st.2.drop (48 * i)).length
 have := h0 h1
 rw [List.length_drop]
 omega
theorem F8 (N : Nat) (h1 : 0 < N) (hN : N <= 100000) (st : Int × LU0) (h0 : st.1 = 0 -> 48 * N <= st.2.length) : Sound prog 0 false (.loop (pS f10 0)) (gkZ N st.2 st.1).aa (.exit 0) (gkE (qO (gkVs st N)) N (nst 48 g1E N st).2 (nst 48 g1E N st).1).aa := by
 have hh := qk (P := prog) (fb := 0) (rd := false) (body := (pS f10 0)) (ex := .exit 0) (E := gkE (qO (gkVs st N)) N (nst 48 g1E N st).2 (nst 48 g1E N st).1) (m := fun y : { i : Nat // i <= N } => N - y.val) (fun y => gkF N st y.val) (by simp) (fun y => ?_) ⟨0, by omega⟩
 ·exact hh
 obtain ⟨i, hi⟩ := y
 by_cases e : i < N
 ·refine .inl ⟨⟨i + 1, e⟩, by show N - (i + 1) < N - i; omega, ?_⟩
  have hl := ZJ N st h0 i e
  cases i with
  | zero =>
   have h := gkz N e st hl
   show Sound _ _ _ _ (gkZ N st.2 st.1).aa _ (gkI N (qO (gkVs st 1)) 1 _ _).aa
   rw [En, show qO (gkVs st 0) = [] from rfl, List.nil_append]
   exact h
  | succ k =>
   have h := gkr N (k + 1) e hN (qO (gkVs st (k + 1))) (Su st _) (nst 48 g1E (k + 1) st) hl
   show Sound _ _ _ _ _ _ (gkI N (qO (gkVs st (k + 1 + 1))) (k + 1 + 1) _ _).aa
   rw [En]
   exact h
 ·have e : i = N := by omega
  subst e
  refine .inr ?_
  cases i with
  | zero => omega
  | succ k => exact Yp (k + 1) _ _ _
end Go.Proofs.YtokjhbmmdmeafaaGreat
