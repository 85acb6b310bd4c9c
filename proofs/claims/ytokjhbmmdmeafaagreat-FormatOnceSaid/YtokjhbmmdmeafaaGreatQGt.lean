/- Pruned: Gt. -/
import Derived.Test.YtokjhbmmdmeafaaGreatQZhGq1
import Derived.Test.YtokjhbmmdmeafaaGreatQGo
set_option linter.unusedSimpArgs false
set_option linter.unusedVariables false
namespace Go.Proofs.YtokjhbmmdmeafaaGreat
open Go.Ev Go.RowKit
open Tryz
abbrev EW (v : Value) : Prop := true = true /\ true = true /\ [v] = [v]
abbrev qE (n : Nat) : Prop := true = true /\ n = n
abbrev sp (t : Nat) (l : List Ch) : Prop := t = t /\ flat l = flat l
abbrev rV (v : Value) : Prop := v = v
theorem agH (C : List Value) (g : GT) : flat ([.l C] ++ gP g) = flat [.l (C ++ gC g)] := by simp [flat, Ch.cells, gC]
theorem acN (g : GT) : flat (gP g) = flat [.l (gC g)] := by simp [flat, Ch.cells, gC]
def gst (st : Int × LU0) : Int × LU0 := nst 4 noE 3 (nst 32 gfE 5 st)
def gV (st : Int × LU0) : GT := qfB (qfA gt0 (fun j => rvl 32 gfV 0 (nst 32 gfE j st)) 5) (fun j => rvl 4 wV 0 (nst 4 noE j (nst 32 gfE 5 st))) 3
def gE (l : LU0) : Int := (nst 32 gfE 5 (0, l)).1
theorem YS {l : LU0} (h : gE l = 0) : gst (0, l) = (0, l.drop 172) := by
 obtain ⟨_, h2, _⟩ := qh 5 (0, l) h
 unfold gst
 rw [h2, zG 3 (fun i _ => rfl), List.drop_drop]
theorem Lk {l : LU0} (h : gE l ≠ 0) : (gst (0, l)).1 = gE l := by
 unfold gst
 rw [tW h]
 rfl
theorem ab5 (st : Int × LU0) (h0 : st.1 = 0 -> 172 <= st.2.length) : (nst 32 gfE 5 st).1 = 0 -> 12 <= (nst 32 gfE 5 st).2.length := by
 intro h
 obtain ⟨h1, h2, _⟩ := qh 5 st h
 rw [h2]
 show 12 <= (st.2.drop (32 * 5)).length
 have := h0 h1
 rw [List.length_drop]
 omega
theorem Vd (h : QH) (sb : LU0) : qw (qJz h sb).aa (qAz h (qfA gt0 (fun j => rvl 32 gfV 0 (nst 32 gfE j (0, sb))) 0) sb 0 0) [] := by
 have e : qw (qJz h sb).aa (qAz h (qfA gt0 (fun j => rvl 32 gfV 0 (nst 32 gfE j (0, sb))) 0) sb 0 0) [] = (((qE 0) /\ (qE 0) /\ (rV (.int .u32 h.u)) /\ (qE 0) /\ (qE 0) /\ (rV (.int .i64 (h.N : Int))) /\ (rV (.int .i64 0)) /\ ((qE 0) /\ (qE 4) /\ (qE 8) /\ (qE 12) /\ (qE 16) /\ True) /\ (rV (.int .i64 0)) /\ True) /\ ((sp 49 zcL) /\ (sp 85 [.c (.string (ofL sb)), ci0 0]) /\ (sp 49 [.c (.slice none 0 0), ci0 h.pub, ci0 h.vs]) /\ (94 = 94 /\ flat g0L = flat (gP (qfA gt0 (fun j => rvl 32 gfV 0 (nst 32 gfE j (0, sb))) 0))) /\ True)) := by kernel_rfl
 rw [e]
 exact ⟨⟨rr0, rr0, rfl, rr0, rr0, rfl, rfl, ⟨rr0, rr0, rr0, rr0, rr0, tt0⟩, rfl, tt0⟩, ⟨rr0, rr0, rr0, ⟨rfl, LJ⟩, tt0⟩⟩
abbrev yW (sb : LU0) := qfA gt0 (fun j => rvl 32 gfV 0 (nst 32 gfE j (0, sb))) 5
abbrev sj (sb : LU0) := nst 32 gfE 5 (0, sb)
def PD {h : QH} (hi : 0 < h.N) := PLift.up (ai (show decide ((0 : Int) < ((h.N : Nat) : Int)) = true from decide_eq_true (by omega)) tt0)
theorem Ty {c : Code} {I J : LState} {ex : Ex} {b : Prop} (o : LO0) (k : Nat) (τ : List (Nat × Nat)) (hb : b) (h : vK prog (pN _) [] 3 (oL o) 0 false c k I J τ = some (ex, b) := by kernel_rfl) : Sound prog 0 false c I.aa ex J.aa := qT (P := prog) (X := pN _) (env := []) trivial h hb
abbrev xQ (a : AA) (e : Ex) (b : AA) : Prop := Sound prog 0 false (pS f9 0) a e b
theorem qoz (h : QH) (sb : LU0) (hi : 0 < h.N) (hl : 172 <= sb.length) : xQ (qOz h sb 0).aa .normal (qOr h (gC (gV (0, sb))) 1 (gst (0, sb)).2 (gst (0, sb)).1).aa :=
 Ty [(248, wT), (262, lpO { I := qJz h sb, ex := .exit 2, E := qBz h (yW sb) (sj sb).2 (sj sb).1, fr := 263 }), (264, lpO { I := qCz h (yW sb) (sj sb).2 (sj sb).1 0, ex := .exit 4, E := qBz h (gV (0, sb)) (gst (0, sb)).2 (gst (0, sb)).1, fr := 265 })] 248 [(24, 269)] (ai (show ((qE 0) /\ (qE 0) /\ (rV (.int .u32 h.u)) /\ (qE 0) /\ (rV (.int .i64 (h.N : Int))) /\ (Value.int .i64 (IntKind.i64.wrap (0 + 1))) = (Value.int .i64 ((1 : Nat) : Int)) /\ True) /\ ((sp 49 zcL) /\ (sp 85 [.c (.string (ofL (gst (0, sb)).2)), ci0 (gst (0, sb)).1]) /\ (49 = 49 /\ (qE 1) /\ (EW (.int .i64 h.pub)) /\ (EW (.int .i64 h.vs)) /\ True) /\ ((94 = 94 /\ 23 = 23) /\ flat (gP (gV (0, sb))) = flat [.l (gC (gV (0, sb)))]) /\ True) from ⟨⟨rr0, rr0, rfl, rr0, rfl, rfl, tt0⟩, ⟨rr0, rr0, ⟨rfl, rr0, r30, r30, tt0⟩, ⟨rr0, acN _⟩, tt0⟩⟩) (ai (show some (qCz h (yW sb) (sj sb).2 (sj sb).1 0) = some (qCz h (yW sb) (sj sb).2 (sj sb).1 0) from rfl) (ai (Wz h (yW sb) (sj sb) (ab5 (0, sb) (fun _ => hl))) (ai (show some (qJz h sb) = some (qJz h sb) from rfl) (ai ((Uv h gt0 (0, sb) (fun _ => by show 160 <= sb.length; omega)).pre [] (by kernel_rfl) (Vd h sb))
   (PD hi).down)))))
theorem Gz {c : Code} {I L : LState} {ex : Ex} {b : Prop} (o : LO0) (k : Nat) (sk hk : List Nat) (hb : b) (h : uW prog (pN _) [] 0 (oL o) 0 false c k I sk hk [] = some (ex, L, b) := by kernel_rfl) : Sound prog 0 false c I.aa ex L.aa := pR (P := prog) (X := pN _) (env := []) trivial h hb
theorem UN (h : QH) (sb : LU0) (e : Int) (h0 : e ≠ 0) (hi : 0 < h.N) : xQ (qOz h sb e).aa (.exit 0) (qEz h sb e).aa :=
 Gz [(248, wT), (253, wT)] 248 [2, 4, 7, 8] [0, 23, 244] (ai (show (e != 0) = true from by simpa using h0) (PD hi).down)
theorem Lm (h : QH) (sb : LU0) (e : Int) (hi : 0 = h.N) : xQ (qOz h sb e).aa (.exit 0) (qEz h sb e).aa :=
 Gz [(248, wF)] 248 [2, 4, 7, 8] [0, 23, 244] (ai (show decide ((0 : Int) < ((h.N : Nat) : Int)) = false from decide_eq_false (by omega)) tt0)
theorem Vk (h : QH) (C : List Value) (i : Nat) (sb : LU0) : qw (qJr h C i sb).aa (qAr h C i (qfA gt0 (fun j => rvl 32 gfV 0 (nst 32 gfE j (0, sb))) 0) sb 0 0) [] := by
 have e : qw (qJr h C i sb).aa (qAr h C i (qfA gt0 (fun j => rvl 32 gfV 0 (nst 32 gfE j (0, sb))) 0) sb 0 0) [] = (((qE 0) /\ (qE 0) /\ (rV (.int .u32 h.u)) /\ (qE 0) /\ (qE 0) /\ (rV (.int .i64 (h.N : Int))) /\ (rV (.int .i64 (i : Int))) /\ ((qE 0) /\ (qE 4) /\ (qE 8) /\ (qE 12) /\ (qE 16) /\ True) /\ (rV (.int .i64 0)) /\ True) /\ ((sp 49 zcL) /\ (sp 85 [.c (.string (ofL sb)), ci0 0]) /\ (49 = 49 /\ (qE i) /\ (EW (.int .i64 h.pub)) /\ (EW (.int .i64 h.vs)) /\ True) /\ (94 = 94 /\ flat g0L = flat (gP (qfA gt0 (fun j => rvl 32 gfV 0 (nst 32 gfE j (0, sb))) 0))) /\ ((94 = 94 /\ 23 = 23) /\ flat [.l C] = flat [.l C]) /\ True)) := by kernel_rfl
 rw [e]
 exact ⟨⟨rr0, rr0, rfl, rr0, rr0, rfl, rfl, ⟨rr0, rr0, rr0, rr0, rr0, tt0⟩, rfl, tt0⟩, ⟨rr0, rr0, ⟨rfl, rr0, r30, r30, tt0⟩, ⟨rfl, LJ⟩, ⟨rr0, rfl⟩, tt0⟩⟩
theorem qor (h : QH) (C : List Value) (i : Nat) (sb : LU0) (hi : i < h.N) (hN : h.N <= 100000) (hC : C.length = i * 23) (hl : 172 <= sb.length) : xQ (qOr h C i sb 0).aa .normal (qOr h (C ++ gC (gV (0, sb))) (i + 1) (gst (0, sb)).2 (gst (0, sb)).1).aa :=
 Ty [(248, wT), (262, lpO { I := qJr h C i sb, ex := .exit 2, E := qBr h C i (yW sb) (sj sb).2 (sj sb).1, fr := 263 }), (264, lpO { I := qCr h C i (yW sb) (sj sb).2 (sj sb).1 0, ex := .exit 4, E := qBr h C i (gV (0, sb)) (gst (0, sb)).2 (gst (0, sb)).1, fr := 265 }), (269, { ch := 0, hi := fun _ => 0, ex := 1 })] 248 [(24, 269)] (ai (show ((qE 0) /\ (qE 0) /\ (rV (.int .u32 h.u)) /\ (qE 0) /\ (rV (.int .i64 (h.N : Int))) /\ (Value.int .i64 (IntKind.i64.wrap ((i : Int) + 1))) = (Value.int .i64 ((i + 1 : Nat) : Int)) /\ True) /\ ((sp 49 zcL) /\ (sp 85 [.c (.string (ofL (gst (0, sb)).2)), ci0 (gst (0, sb)).1]) /\ (49 = 49 /\ (qE (i + 1)) /\ (EW (.int .i64 h.pub)) /\ (EW (.int .i64 h.vs)) /\ True) /\ ((94 = 94 /\ 23 = 23) /\ flat ([.l C] ++ gP (gV (0, sb))) = flat [.l (C ++ gC (gV (0, sb)))]) /\ True) from ⟨⟨rr0, rr0, rfl, rr0, rfl, by rw [show IntKind.i64.wrap ((i : Int) + 1) = ((i + 1 : Nat) : Int) by rw [p6]; omega], tt0⟩, ⟨rr0, rr0, ⟨rfl, rr0, r30, r30, tt0⟩, ⟨rr0, agH C _⟩, tt0⟩⟩) (ai (show qd [.l C] = i * 23 /\ i + 1 <= 9223372036854775807 /\ (i + 1) * 184 <= 140737488355328 /\ True from ⟨by show C.length + 0 = i * 23; omega, by omega, by omega, tt0⟩) (ai (show some (qCr h C i (yW sb) (sj sb).2 (sj sb).1 0) = some (qCr h C i (yW sb) (sj sb).2 (sj sb).1 0) from rfl) (ai (VV h C i (yW sb) (sj sb) (ab5 (0, sb) (fun _ => hl))) (ai (show some (qJr h C i sb) = some (qJr h C i sb) from rfl) (ai ((Un h C i gt0 (0, sb) (fun _ => by show 160 <= sb.length; omega)).pre [] (by kernel_rfl) (Vk h C i sb)) (ai (show decide (((i : Nat) : Int) < ((h.N : Nat) : Int)) = true from decide_eq_true (by omega)) tt0)))))))
theorem Ue (h : QH) (C : List Value) (i : Nat) (sb : LU0) (e : Int) (h0 : e ≠ 0) (hi : i < h.N) : xQ (qOr h C i sb e).aa (.exit 0) (qEr h C i sb e).aa :=
 Gz [(248, wT), (253, wT)] 248 [2, 4, 7, 8] [0, 23, 244, 24] (ai (show (e != 0) = true from by simpa using h0) (ai (show decide (((i : Nat) : Int) < ((h.N : Nat) : Int)) = true from decide_eq_true (by omega)) tt0))
theorem Ms (h : QH) (C : List Value) (i : Nat) (sb : LU0) (e : Int) (hi : i = h.N) : xQ (qOr h C i sb e).aa (.exit 0) (qEr h C i sb e).aa :=
 Gz [(248, wF)] 248 [2, 4, 7, 8] [0, 23, 244, 24] (ai (show decide (((i : Nat) : Int) < ((h.N : Nat) : Int)) = false from decide_eq_false (by omega)) tt0)
def gsv (l : LU0) (i : Nat) : List GT := (List.range i).map fun j => gV (0, l.drop (172 * j))
theorem OZ (l : LU0) (i : Nat) : gsC (gsv l (i + 1)) = gsC (gsv l i) ++ gC (gV (0, l.drop (172 * i))) := by
 unfold gsv
 rw [List.range_succ, List.map_append]
 simp [gsC]
theorem Mi : ∀ l : List GT, (gsC l).length = l.length * 23
 | [] => rfl
 | g :: l => by
  have ih := Mi l
  simp only [gsC, List.flatMap_cons, List.length_append, DU, List.length_cons] at ih ⊢
  omega
theorem Wt (l : LU0) (i : Nat) : (gsC (gsv l i)).length = i * 23 := by
 rw [Mi]; simp [gsv]
def qF (h : QH) (l : LU0) : Nat -> LState
 | 0 => qOz h l 0
 | i + 1 => qOr h (gsC (gsv l (i + 1))) (i + 1) (l.drop (172 * (i + 1))) 0
theorem KC (h : QH) (hN : h.N <= 100000) (l : LU0) (i : Nat) (hi : i < h.N) (hl : 172 * h.N <= l.length) : xQ (qF h l i).aa .normal (qOr h (gsC (gsv l (i + 1))) (i + 1) (gst (0, l.drop (172 * i))).2 (gst (0, l.drop (172 * i))).1).aa := by
 rw [OZ]
 cases i with
 | zero =>
  rw [show gsC (gsv l 0) = [] from rfl, List.nil_append, show l.drop (172 * 0) = l from rfl]
  exact qoz h l hi (by omega)
 | succ k => exact qor h (gsC (gsv l (k + 1))) (k + 1) (l.drop (172 * (k + 1))) hi hN (Wt l _) (by rw [List.length_drop]; omega)
theorem KT (h : QH) (hN : h.N <= 100000) (l : LU0) (i : Nat) (hi : i < h.N) (hl : 172 * h.N <= l.length) (hg : gE (l.drop (172 * i)) = 0) : xQ (qF h l i).aa .normal (qF h l (i + 1)).aa := by
 have hh := KC h hN l i hi hl
 rw [YS hg, List.drop_drop, show 172 * i + 172 = 172 * (i + 1) by omega] at hh
 exact hh
abbrev GG (a : AA) (e : Ex) (b : AA) : Prop := Sound prog 0 false (.loop (pS f9 0)) a e b
theorem T8 (h : QH) (h1 : 0 < h.N) (hN : h.N <= 100000) (l : LU0) (hl : 172 * h.N <= l.length) (hg : ∀ i, i < h.N -> gE (l.drop (172 * i)) = 0) : GG (qOz h l 0).aa (.exit 0) (qEr h (gsC (gsv l h.N)) h.N (l.drop (172 * h.N)) 0).aa := by
 have hh := qk (P := prog) (fb := 0) (rd := false) (body := (pS f9 0)) (ex := .exit 0) (E := qEr h (gsC (gsv l h.N)) h.N (l.drop (172 * h.N)) 0) (m := fun y : { i : Nat // i <= h.N } => h.N - y.val) (fun y => qF h l y.val) (by simp) (fun y => ?_) ⟨0, by omega⟩
 ·exact hh
 obtain ⟨i, hi⟩ := y
 by_cases e : i < h.N
 ·exact .inl ⟨⟨i + 1, e⟩, by show h.N - (i + 1) < h.N - i; omega, KT h hN l i e hl (hg i e)⟩
 ·refine .inr ?_
  cases i with
  | zero => omega
  | succ k =>
   have e : k + 1 = h.N := by omega
   show Sound _ _ _ _ (qOr h (gsC (gsv l (k + 1))) (k + 1) (l.drop (172 * (k + 1))) 0).aa _ _
   rw [e]
   exact Ms h _ h.N _ 0 rfl
theorem afZ (h : QH) (hN : h.N <= 100000) (l : LU0) (hl : 172 * h.N <= l.length) (j : Nat) (hj : j < h.N) (hg : ∀ i, i < j -> gE (l.drop (172 * i)) = 0) (hb : gE (l.drop (172 * j)) ≠ 0) (hz : ¬ j + 1 = h.N) : GG (qOz h l 0).aa (.exit 0) (qEr h (gsC (gsv l (j + 1))) (j + 1) (gst (0, l.drop (172 * j))).2 (gE (l.drop (172 * j)))).aa := by
 have hs := KC h hN l j hj hl
 rw [Lk hb] at hs
 generalize hX : qOr h (gsC (gsv l (j + 1))) (j + 1) (gst (0, l.drop (172 * j))).2 (gE (l.drop (172 * j))) = X at hs
 have hh := qk (P := prog) (fb := 0) (rd := false) (body := (pS f9 0)) (ex := .exit 0) (E := qEr h (gsC (gsv l (j + 1))) (j + 1) (gst (0, l.drop (172 * j))).2 (gE (l.drop (172 * j)))) (m := fun y : { i : Nat // i <= j + 1 } => j + 1 - y.val) (fun y => if y.val <= j then qF h l y.val else X) (by simp) (fun y => ?_) ⟨0, by omega⟩
 ·exact hh
 obtain ⟨i, hi⟩ := y
 by_cases e : i < j
 ·refine .inl ⟨⟨i + 1, by omega⟩, by show j + 1 - (i + 1) < j + 1 - i; omega, ?_⟩
  show Sound _ _ _ _ (if i <= j then qF h l i else X).aa _ (if i + 1 <= j then qF h l (i + 1) else X).aa
  rw [if_pos (by omega), if_pos (by omega)]
  exact KT h hN l i (by omega) hl (hg i e)
 ·by_cases e2 : i = j
  ·subst e2
   refine .inl ⟨⟨i + 1, by omega⟩, by show i + 1 - (i + 1) < i + 1 - i; omega, ?_⟩
   show Sound _ _ _ _ (if i <= i then qF h l i else X).aa _ (if i + 1 <= i then qF h l (i + 1) else X).aa
   rw [if_pos (by omega), if_neg (by omega)]
   exact hs
  ·refine .inr ?_
   show Sound _ _ _ _ (if i <= j then qF h l i else X).aa _ _
   rw [if_neg (by omega), ← hX]
   exact Ue h _ _ _ _ hb (by omega)
theorem Yv (h : QH) (hN : h.N <= 100000) (l : LU0) (hl : 172 * h.N <= l.length) (j : Nat) (hj : j < h.N) (hg : ∀ i, i < j -> gE (l.drop (172 * i)) = 0) (hb : gE (l.drop (172 * j)) ≠ 0) : GG (qOz h l 0).aa (.exit 0) (qEr h (gsC (gsv l (j + 1))) (j + 1) (gst (0, l.drop (172 * j))).2 (gE (l.drop (172 * j)))).aa := by
 by_cases hz : j + 1 = h.N
 ·have hs := KC h hN l j hj hl
  rw [Lk hb] at hs
  have hh := qk (P := prog) (fb := 0) (rd := false) (body := (pS f9 0)) (ex := .exit 0) (E := qEr h (gsC (gsv l (j + 1))) (j + 1) (gst (0, l.drop (172 * j))).2 (gE (l.drop (172 * j)))) (m := fun y : { i : Nat // i <= j + 1 } => j + 1 - y.val) (fun y => if y.val <= j then qF h l y.val else qOr h (gsC (gsv l (j + 1))) (j + 1) (gst (0, l.drop (172 * j))).2 (gE (l.drop (172 * j)))) (by simp) (fun y => ?_) ⟨0, by omega⟩
  ·exact hh
  obtain ⟨i, hi⟩ := y
  by_cases e : i < j
  ·refine .inl ⟨⟨i + 1, by omega⟩, by show j + 1 - (i + 1) < j + 1 - i; omega, ?_⟩
   show Sound _ _ _ _ (if i <= j then qF h l i else qOr _ _ _ _ _).aa _ (if i + 1 <= j then qF h l (i + 1) else qOr _ _ _ _ _).aa
   rw [if_pos (by omega), if_pos (by omega)]
   exact KT h hN l i (by omega) hl (hg i e)
  ·by_cases e2 : i = j
   ·subst e2
    refine .inl ⟨⟨i + 1, by omega⟩, by show i + 1 - (i + 1) < i + 1 - i; omega, ?_⟩
    show Sound _ _ _ _ (if i <= i then qF h l i else qOr _ _ _ _ _).aa _ (if i + 1 <= i then qF h l (i + 1) else qOr _ _ _ _ _).aa
    rw [if_pos (by omega), if_neg (by omega)]
    exact hs
   ·refine .inr ?_
    show Sound _ _ _ _ (if i <= j then qF h l i else qOr _ _ _ _ _).aa _ _
    rw [if_neg (by omega)]
    exact Ms h _ _ _ _ hz
 ·exact afZ h hN l hl j hj hg hb hz
end Go.Proofs.YtokjhbmmdmeafaaGreat
set_option linter.unusedSimpArgs false
set_option linter.unusedVariables false
namespace Go.Proofs.YtokjhbmmdmeafaaGreat
open Go.Ev Go.RowKit
open Tryz
theorem Gives.ags_r {P : Program} {f : FuncId} {cs : List Ch} {len : Nat} {l : List XPc} {r : AV} (h : Gives P f [.ags (.z cs len :: l)] r) : Gives P f [.ags (.r cs len :: l)] r := by
 obtain ⟨v, hv, hr⟩ := h
 refine ⟨v, hv, fun w vs hx => hr w vs ?_⟩
 match vs, hx with
 | [], hx => exact hx.elim
 | _ :: _ :: _, hx => exact hx.2.elim
 | [y], hx =>
  obtain ⟨⟨cells, rfl, hp, b, off, room, r', rfl, hlt, hra, hl⟩, _⟩ := hx
  exact ⟨⟨_, rfl, _, r', rfl, ⟨hp, by omega, .inr ⟨b, off, room, rfl, hlt, hra⟩⟩, hl⟩, tt0⟩
theorem V6 (pub vs : Int) (h1 : 0 <= pub) (h2 : pub <= 0) (h3 : 0 <= vs) : Gives prog 36 [.t (.ag [.c (.slice none 0 0), ci0 pub, ci0 vs])] (.v (.bool true)) :=
 pL (P := prog) (X := pN _) (env := []) trivial func36 5 (oL [(9, wF), (17, wF), (22, wF)]) (by kernel_rfl) ⟨_, rfl⟩ (ai (show decide (vs < 0) = false from decide_eq_false (by omega)) (ai (show decide (pub > 0) = false from decide_eq_false (by omega)) (ai (show decide (pub < 0) = false from decide_eq_false (by omega)) tt0)))
theorem ZP (pub vs : Int) (h1 : 0 <= pub) (h2 : 0 < pub) : Gives prog 36 [.t (.ag [.c (.slice none 0 0), ci0 pub, ci0 vs])] (.v (.bool false)) :=
 pL (P := prog) (X := pN _) (env := []) trivial func36 5 (oL [(9, wF), (17, wT)]) (by kernel_rfl) ⟨_, rfl⟩ (ai (show decide (pub > 0) = true from decide_eq_true (by omega)) (ai (show decide (pub < 0) = false from decide_eq_false (by omega)) tt0))
def qX (sb : LU0) (e : Int) : LState := { n := 98, sl := [(2, .p 0 0), (4, .p 23 0)], hp := [(0, .own zcL 49), (23, .own [.c (.string (ofL sb)), ci0 e] 85)] }
def qXa (sb : LU0) (e : Int) : LState := { n := 98, sl := [(2, .p 0 0), (4, .p 19 0)], hp := [(0, .own zcL 49), (19, .own [.c (.string (ofL sb)), ci0 e] 85)] }
def qY (e : Int) : LState := { n := 98, sl := [(2, .p 0 0), (3, vi0 e)], hp := [(0, .own zcL 49)] }
theorem qW (sb : LU0) (e : Int) : Sound prog 0 false (Bl f9 0) (qX sb e).aa .normal (qY e).aa := by
 have hL : True /\ (some (qY e) = some (qY e)) := ⟨tt0, rfl⟩
 exact qn (P := prog) (X := pN _) (env := []) trivial (rH (P := prog) (X := pN _) (env := []) (os := oL []) trivial 0) (os := oL []) (fb := 0) (k := 62) (I := qX sb e) (E := qY e) (by kernel_rfl) (ai (ai (ai (ai (ai (ai (ai hL tt0) tt0) (ai (ai (ai hL tt0) tt0) tt0)) (ai (ai (ai (ai hL tt0) tt0) tt0) tt0)) (ai (ai (ai (ai (ai hL tt0) tt0) tt0) tt0) tt0)) (ai (ai (ai (ai (ai (ai hL tt0) tt0) tt0) tt0) tt0) tt0)) (ai (ai (ai (ai (ai (ai (ai hL tt0) tt0) (ai (ai (ai hL tt0) tt0) tt0)) (ai (ai (ai (ai hL tt0) tt0) tt0) tt0)) (ai (ai (ai (ai (ai hL tt0) tt0) tt0) tt0) tt0)) (ai (ai (ai (ai (ai (ai hL tt0) tt0) (ai (ai (ai hL tt0) tt0) tt0)) (ai (ai (ai (ai hL tt0) tt0) tt0) tt0)) (ai (ai (ai (ai (ai hL tt0) tt0) (ai (ai (ai hL tt0) tt0) tt0)) (ai (ai (ai (ai hL tt0) tt0) tt0) tt0)) tt0)) tt0)) tt0))
theorem Dd (sb : LU0) (e : Int) : Sound prog 0 false (Bl f9 0) (qXa sb e).aa .normal (qY e).aa := by
 have hL : True /\ (some (qY e) = some (qY e)) := ⟨tt0, rfl⟩
 exact qn (P := prog) (X := pN _) (env := []) trivial (rH (P := prog) (X := pN _) (env := []) (os := oL []) trivial 0) (os := oL []) (fb := 0) (k := 62) (I := qXa sb e) (E := qY e) (by kernel_rfl) (ai (ai (ai (ai (ai (ai (ai hL tt0) tt0) (ai (ai (ai hL tt0) tt0) tt0)) (ai (ai (ai (ai hL tt0) tt0) tt0) tt0)) (ai (ai (ai (ai (ai hL tt0) tt0) tt0) tt0) tt0)) (ai (ai (ai (ai (ai (ai hL tt0) tt0) tt0) tt0) tt0) tt0)) (ai (ai (ai (ai (ai (ai (ai hL tt0) tt0) (ai (ai (ai hL tt0) tt0) tt0)) (ai (ai (ai (ai hL tt0) tt0) tt0) tt0)) (ai (ai (ai (ai (ai hL tt0) tt0) tt0) tt0) tt0)) (ai (ai (ai (ai (ai (ai hL tt0) tt0) (ai (ai (ai hL tt0) tt0) tt0)) (ai (ai (ai (ai hL tt0) tt0) tt0) tt0)) (ai (ai (ai (ai (ai hL tt0) tt0) (ai (ai (ai hL tt0) tt0) tt0)) (ai (ai (ai (ai hL tt0) tt0) tt0) tt0)) tt0)) tt0)) tt0))
theorem HC (h : QH) (sb : LU0) (e : Int) (h0 : e ≠ 0) : GG (qOz h sb e).aa (.exit 0) (qEz h sb e).aa := by
 rcases Nat.eq_zero_or_pos h.N with h1 | h1
 ·exact uc (Lm h sb e h1.symm)
 ·exact uc (UN h sb e h0 h1)
def sL : LU0 := [67, 72, 67, 49]
abbrev sh (l : LU0) : List XV := [.t (.v (.string (ofL l)))]
def Ub : Nat × Ora := (132, lpO { kd := 5, I := qXa [] 80, ex := .normal, E := qY 80, fr := 139 })
theorem sC {a : List XV} {r : AV} {b : Prop} (o : LO0) (hb : b) (h : fnA prog (pN _) [] 3 (oL o) f9 a = some (r, b) := by kernel_rfl) (hv : ∃ v, r.val? = some v := by exact ⟨_, rfl⟩) : Gives prog 9 a r := pL (P := prog) (X := pN _) (env := []) trivial func9 3 (oL o) h hv hb
theorem af4 (l : LU0) (hn : l.length < 4) : Gives prog 9 (sh l) (.tp [.ag zcL, vi0 80]) :=
 sC [(9, wT), Ub] (ai (show some (qXa [] 80) = some (qXa [] 80) from rfl) (ai (Dd [] 80) (ai (show decide ((((ofL l).size : Nat) : Int) < 4) = true from decide_eq_true (by show  ((l.length : Nat) : Int) < 4; omega)) tt0)))
def Tl {l : LU0} (hn : 4 <= l.length) := PLift.up (show (0 : Int) <= 4 /\ (4 : Int) <= (ofL l).size from ⟨by decide, by show (4 : Int) <= ((l).length : Nat); omega⟩)
def PP {l : LU0} (hn : 4 <= l.length) := PLift.up (ai (Tl hn).down (ai (show decide ((((ofL l).size : Nat) : Int) < 4) = false from decide_eq_false (by show ¬ ((l.length : Nat) : Int) < 4; omega)) tt0))
theorem afI (l : LU0) (hn : 4 <= l.length) (hm : l.take 4 ≠ sL) : Gives prog 9 (sh l) (.tp [.ag zcL, vi0 80]) :=
 sC [(9, wF), (14, rO 5 0), (16, wT), Ub] (ai (show some (qXa [] 80) = some (qXa [] 80) from rfl) (ai (Dd [] 80) (ai (show (!((ofL (l.take 4)).toList == (ofL sL).toList)) = true from TT hm)
   (PP hn).down)))
def Tv {l : LU0} (hn : 4 <= l.length) (hm : l.take 4 = sL) := PLift.up (ai (Tl hn).down (ai (show (!((ofL (l.take 4)).toList == (ofL sL).toList)) = false from by rw [hm]; simp)
   (PP hn).down))
abbrev zr : AV := .tp [.ag zcL, vi0 3]
theorem aeb (l : LU0) (hn : 4 <= l.length) (hm : l.take 4 = sL) (h4 : (l.drop 4).length < 4) (hx : (l.drop 4).length = 0) : Gives prog 9 (sh l) zr :=
 sC [(9, wF), (14, rO 5 0), (16, wF), (21, rO 5 0), (40, wT), (110, wF), (140, lpO { kd := 5, I := qX (l.drop 4) 3, ex := .normal, E := qY 3, fr := 147 })] (ai (show some (qX (l.drop 4) 3) = some (qX (l.drop 4) 3) from rfl) (ai (qW (l.drop 4) 3) (ai (show ((((ofL (l.drop 4)).size : Nat) : Int) != 0) = false from by
    have h1 : (((l.drop 4).length : Nat) : Int) = 0 := by omega
    exact z8 h1) (ai (show decide ((((ofL (l.drop 4)).size : Nat) : Int) < 4) = true from decide_eq_true (by show (((l.drop 4).length : Nat) : Int) < 4; omega))
   (Tv hn hm).down))))
def TO {l : LU0} {N : Nat} (hNe : c4 (l.drop 4) = N) (hn : 4 <= l.length) (hm : l.take 4 = sL) (h4 : 4 <= (l.drop 4).length) := PLift.up (ai (cs4 h4) (ai (vQ hNe) (ai (cw (l.drop 4) 3) (ai (cid 3 h4 (by decide)) (ai (vN (l.drop 4)) (ai (DX (qJ (l.drop 4) 2)) (ai (cw (l.drop 4) 2) (ai (cid 2 h4 (by decide)) (ai (vT (l.drop 4)) (ai (AF (qJ (l.drop 4) 1)) (ai (cw (l.drop 4) 1) (ai (cid 1 h4 (by decide)) (ai (A5 (qJ (l.drop 4) 0)) (ai (cw (l.drop 4) 0) (ai (cid 0 h4 (by decide)) (ai (clt h4)
   (Tv hn hm).down))))))))))))))))
def OV (l : LU0) : Nat × Ora := (53, tn (cn (l.drop 4) 0 * 16777216))
def QR (l : LU0) : Nat × Ora := (60, tn (cn (l.drop 4) 1 * 65536))
def Pt (l : LU0) : Nat × Ora := (68, tn (cn (l.drop 4) 2 * 256))
def So (l : LU0) : Nat × Ora := (74, rO 1 (cn (l.drop 4) 3))
def Sp (l : LU0) : Nat × Ora := (66, rO 1 (cn (l.drop 4) 2))
def Tn (l : LU0) : Nat × Ora := (58, rO 1 (cn (l.drop 4) 1))
def RS (l : LU0) : Nat × Ora := (51, rO 1 (cn (l.drop 4) 0))
def Sf (l : LU0) : Nat × Ora := (75, tn (cn (l.drop 4) 3))
def SG (l : LU0) : Nat × Ora := (67, tn (cn (l.drop 4) 2))
def PC (l : LU0) : Nat × Ora := (59, tn (cn (l.drop 4) 1))
def Re (l : LU0) : Nat × Ora := (52, tn (cn (l.drop 4) 0))
def QI (l : LU0) : Nat × Ora := (69, tn (co2 (l.drop 4)))
def RJ (l : LU0) : Nat × Ora := (61, tn (co1 (l.drop 4)))
def AB (l : LU0) (N : Nat) : LO0 := [(9, wF), (14, rO 5 0), (16, wF), (21, rO 5 0), (40, wF), (RS l), (Re l), (OV l), (Tn l), (PC l), (QR l), (RJ l), (Sp l), (SG l), (Pt l), (QI l), (So l), (Sf l), (76, tn (N)), (83, rO 5 0)]
theorem abm (l : LU0) (N : Nat) (hNe : c4 (l.drop 4) = N) (hn : 4 <= l.length) (hm : l.take 4 = sL) (h4 : 4 <= (l.drop 4).length) (hN : 4096 < N) (hx : ((l.drop 4).drop 4).length = 0) : Gives prog 9 (sh l) (.tp [.ag zcL, vi0 2]) :=
 sC ((AB l N) ++ [(89, wT), (153, wF), (183, lpO { kd := 5, I := qX ((l.drop 4).drop 4) 2, ex := .normal, E := qY 2, fr := 190 })]) (ai (show some (qX ((l.drop 4).drop 4) 2) = some (qX ((l.drop 4).drop 4) 2) from rfl) (ai (qW ((l.drop 4).drop 4) 2) (ai (show ((((ofL ((l.drop 4).drop 4)).size : Nat) : Int) != 0) = false from by
    have h1 : ((((l.drop 4).drop 4).length : Nat) : Int) = 0 := by omega
    exact z8 h1) (ai (show decide (((N : Nat) : Int) > 4096) = true from decide_eq_true (by omega))
   (TO hNe hn hm h4).down))))
theorem adP (l : LU0) (hn : 4 <= l.length) (hm : l.take 4 = sL) (h4 : (l.drop 4).length < 4) (hx : (l.drop 4).length ≠ 0) : Gives prog 9 (sh l) zr :=
 sC [(9, wF), (14, rO 5 0), (16, wF), (21, rO 5 0), (40, wT), (110, wT), (147, lpO { kd := 5, I := qX (l.drop 4) 3, ex := .normal, E := qY 3, fr := 154 })] (ai (show some (qX (l.drop 4) 3) = some (qX (l.drop 4) 3) from rfl) (ai (qW (l.drop 4) 3) (ai (show ((((ofL (l.drop 4)).size : Nat) : Int) != 0) = true from by
    have h1 : (((l.drop 4).length : Nat) : Int) ≠ 0 := by omega
    exact bne_iff_ne.2 h1) (ai (show decide ((((ofL (l.drop 4)).size : Nat) : Int) < 4) = true from decide_eq_true (by show (((l.drop 4).length : Nat) : Int) < 4; omega))
   (Tv hn hm).down))))
theorem abg (l : LU0) (N : Nat) (hNe : c4 (l.drop 4) = N) (hn : 4 <= l.length) (hm : l.take 4 = sL) (h4 : 4 <= (l.drop 4).length) (hN : 4096 < N) (hx : ((l.drop 4).drop 4).length ≠ 0) : Gives prog 9 (sh l) (.tp [.ag zcL, vi0 2]) :=
 sC ((AB l N) ++ [(89, wT), (153, wT), (190, lpO { kd := 5, I := qX ((l.drop 4).drop 4) 2, ex := .normal, E := qY 2, fr := 197 })]) (ai (show some (qX ((l.drop 4).drop 4) 2) = some (qX ((l.drop 4).drop 4) 2) from rfl) (ai (qW ((l.drop 4).drop 4) 2) (ai (show ((((ofL ((l.drop 4).drop 4)).size : Nat) : Int) != 0) = true from by
    have h1 : ((((l.drop 4).drop 4).length : Nat) : Int) ≠ 0 := by omega
    exact bne_iff_ne.2 h1) (ai (show decide (((N : Nat) : Int) > 4096) = true from decide_eq_true (by omega))
   (TO hNe hn hm h4).down))))
def I4 (h : QH) (sb : LU0) (e : Int) : LState := { n := 98, sl := [(2, .p 0 0), (4, .p 23 0), (7, .v (.int .u32 h.u)), (8, .p 160 0), (31, vi0 (h.N : Int)), (32, vi0 0)], hp := [(0, .own zcL 49), (23, .own [.c (.string (ofL sb)), ci0 e] 85), (160, .own [.c (.slice none 0 0), ci0 h.pub, ci0 h.vs] 49)] }
theorem OB (h : QH) (sb : LU0) (e : Int) : qw (I4 h sb e).aa (qOz h sb e) [(244, 160)] := by
 have e : qw (I4 h sb e).aa (qOz h sb e) [(244, 160)] = (((qE 0) /\ (qE 0) /\ (rV (.int .u32 h.u)) /\ (qE 0) /\ (rV (.int .i64 (h.N : Int))) /\ (rV (.int .i64 0)) /\ True) /\ ((sp 49 zcL) /\ (sp 85 [.c (.string (ofL sb)), ci0 e]) /\ (sp 49 [.c (.slice none 0 0), ci0 h.pub, ci0 h.vs]) /\ True)) := by kernel_rfl
 rw [e]
 exact ⟨⟨rr0, rr0, rfl, rr0, rfl, rfl, tt0⟩, rr0, rr0, rr0, tt0⟩
def Ja {l : LU0} {N : Nat} (hNe : c4 (l.drop 4) = N) (hn : 4 <= l.length) (hm : l.take 4 = sL) (h4 : 4 <= (l.drop 4).length) (hN : N <= 4096) := PLift.up (show IntKind.i64.wrap (((N : Nat) : Int) * 172) = ((N * 172 : Nat) : Int) from by
    rw [show ((N : Nat) : Int) * 172 = ((N * 172 : Nat) : Int) by omega]
    exact qc (by omega))
def KO {l : LU0} {N : Nat} (hNe : c4 (l.drop 4) = N) (hn : 4 <= l.length) (hm : l.take 4 = sL) (h4 : 4 <= (l.drop 4).length) (hN : N <= 4096) := PLift.up (ai (show IntKind.i64.wrap ((N : Nat) : Int) = ((N : Nat) : Int) from qc (by omega)) (ai (show decide (((N : Nat) : Int) > 4096) = false from decide_eq_false (by omega))
   (TO hNe hn hm h4).down))
def FX (N : Nat) : Ora := { ch := 1, hi := fun _ => N * 172 }
def E3 (N : Nat) : Nat × Ora := (92, { ch := 1, hi := fun _ => N })
def Pz (l : LU0) : Nat × Ora := (268, lpO { kd := 5, I := qX ((l.drop 4).drop 4) 3, ex := .normal, E := qY 3, fr := 275 })
theorem abX (l : LU0) (N : Nat) (hNe : c4 (l.drop 4) = N) (hn : 4 <= l.length) (hm : l.take 4 = sL) (h4 : 4 <= (l.drop 4).length) (hN : N <= 4096) (h5 : ((l.drop 4).drop 4).length < 4) (hx : ((l.drop 4).drop 4).length = N * 172) : Gives prog 9 (sh l) zr :=
 sC ((AB l N) ++ [(89, wF), (E3 N), (108, wT), (146, (FX N)), (154, wF), (164, lpO { I := I4 ⟨N, 0, 0, 0⟩ ((l.drop 4).drop 4) 3, ex := .exit 0, E := qEz ⟨N, 0, 0, 0⟩ ((l.drop 4).drop 4) 3, fr := 249 }), (Pz l)]) (ai (show some (qX ((l.drop 4).drop 4) 3) = some (qX ((l.drop 4).drop 4) 3) from rfl) (ai (qW ((l.drop 4).drop 4) 3) (ai (show some (I4 ⟨N, 0, 0, 0⟩ ((l.drop 4).drop 4) 3) = some (I4 ⟨N, 0, 0, 0⟩ ((l.drop 4).drop 4) 3) from rfl) (ai ((HC ⟨N, 0, 0, 0⟩ ((l.drop 4).drop 4) 3 (by decide)).pre [(244, 160)] (by kernel_rfl) (OB ⟨N, 0, 0, 0⟩ ((l.drop 4).drop 4) 3)) (ai (show ((((ofL ((l.drop 4).drop 4)).size : Nat) : Int) != ((N * 172 : Nat) : Int)) = false from by
    have h1 : ((((l.drop 4).drop 4).length : Nat) : Int) = ((N * 172 : Nat) : Int) := by omega
    exact z8 h1) (ai (Ja hNe hn hm h4 hN).down (ai (show decide ((((ofL ((l.drop 4).drop 4)).size : Nat) : Int) < 4) = true from decide_eq_true (by show ((((l.drop 4).drop 4).length : Nat) : Int) < 4; omega))
   (KO hNe hn hm h4 hN).down)))))))
def HU (h : QH) (sb : LU0) (e : Int) : LState := { n := 98, sl := [(2, .p 0 0), (4, .p 23 0), (7, .v (.int .u32 h.u)), (8, .p 167 0), (31, vi0 (h.N : Int)), (32, vi0 0)], hp := [(0, .own zcL 49), (23, .own [.c (.string (ofL sb)), ci0 e] 85), (167, .own [.c (.slice none 0 0), ci0 h.pub, ci0 h.vs] 49)] }
theorem Od (h : QH) (sb : LU0) (e : Int) : qw (HU h sb e).aa (qOz h sb e) [(244, 167)] := by
 have e : qw (HU h sb e).aa (qOz h sb e) [(244, 167)] = (((qE 0) /\ (qE 0) /\ (rV (.int .u32 h.u)) /\ (qE 0) /\ (rV (.int .i64 (h.N : Int))) /\ (rV (.int .i64 0)) /\ True) /\ ((sp 49 zcL) /\ (sp 85 [.c (.string (ofL sb)), ci0 e]) /\ (sp 49 [.c (.slice none 0 0), ci0 h.pub, ci0 h.vs]) /\ True)) := by kernel_rfl
 rw [e]
 exact ⟨⟨rr0, rr0, rfl, rr0, rfl, rfl, tt0⟩, rr0, rr0, rr0, tt0⟩
theorem aba (l : LU0) (N : Nat) (hNe : c4 (l.drop 4) = N) (hn : 4 <= l.length) (hm : l.take 4 = sL) (h4 : 4 <= (l.drop 4).length) (hN : N <= 4096) (h5 : ((l.drop 4).drop 4).length < 4) (hx : ((l.drop 4).drop 4).length ≠ N * 172) : Gives prog 9 (sh l) zr :=
 sC ((AB l N) ++ [(89, wF), (E3 N), (108, wT), (146, (FX N)), (154, wT), (171, lpO { I := HU ⟨N, 0, 0, 0⟩ ((l.drop 4).drop 4) 3, ex := .exit 0, E := qEz ⟨N, 0, 0, 0⟩ ((l.drop 4).drop 4) 3, fr := 249 }), (Pz l)]) (ai (show some (qX ((l.drop 4).drop 4) 3) = some (qX ((l.drop 4).drop 4) 3) from rfl) (ai (qW ((l.drop 4).drop 4) 3) (ai (show some (HU ⟨N, 0, 0, 0⟩ ((l.drop 4).drop 4) 3) = some (HU ⟨N, 0, 0, 0⟩ ((l.drop 4).drop 4) 3) from rfl) (ai ((HC ⟨N, 0, 0, 0⟩ ((l.drop 4).drop 4) 3 (by decide)).pre [(244, 167)] (by kernel_rfl) (Od ⟨N, 0, 0, 0⟩ ((l.drop 4).drop 4) 3)) (ai (show ((((ofL ((l.drop 4).drop 4)).size : Nat) : Int) != ((N * 172 : Nat) : Int)) = true from by
    have h1 : ((((l.drop 4).drop 4).length : Nat) : Int) ≠ ((N * 172 : Nat) : Int) := by omega
    exact bne_iff_ne.2 h1) (ai (Ja hNe hn hm h4 hN).down (ai (show decide ((((ofL ((l.drop 4).drop 4)).size : Nat) : Int) < 4) = true from decide_eq_true (by show ((((l.drop 4).drop 4).length : Nat) : Int) < 4; omega))
   (KO hNe hn hm h4 hN).down)))))))
def HR (h : QH) (sb : LU0) (e : Int) : LState := { n := 98, sl := [(2, .p 0 0), (4, .p 23 0), (7, .v (.int .u32 h.u)), (8, .p 204 0), (31, vi0 (h.N : Int)), (32, vi0 0)], hp := [(0, .own zcL 49), (23, .own [.c (.string (ofL sb)), ci0 e] 85), (204, .own [.c (.slice none 0 0), ci0 h.pub, ci0 h.vs] 49)] }
theorem NB (h : QH) (sb : LU0) (e : Int) : qw (HR h sb e).aa (qOz h sb e) [(244, 204)] := by
 have e : qw (HR h sb e).aa (qOz h sb e) [(244, 204)] = (((qE 0) /\ (qE 0) /\ (rV (.int .u32 h.u)) /\ (qE 0) /\ (rV (.int .i64 (h.N : Int))) /\ (rV (.int .i64 0)) /\ True) /\ ((sp 49 zcL) /\ (sp 85 [.c (.string (ofL sb)), ci0 e]) /\ (sp 49 [.c (.slice none 0 0), ci0 h.pub, ci0 h.vs]) /\ True)) := by kernel_rfl
 rw [e]
 exact ⟨⟨rr0, rr0, rfl, rr0, rfl, rfl, tt0⟩, rr0, rr0, rr0, tt0⟩
abbrev pV (l : LU0) := ((l.drop 4).drop 4).drop 4
def Se {l : LU0} {N : Nat} (hNe : c4 (l.drop 4) = N) (hn : 4 <= l.length) (hm : l.take 4 = sL) (h4 : 4 <= (l.drop 4).length) (hN : N <= 4096) {p : Nat} (hPe : c4 ((l.drop 4).drop 4) = p) (h5 : 4 <= ((l.drop 4).drop 4).length) := PLift.up (ai (show decide (((p : Nat) : Int) > 4294967295) = false from decide_eq_false (by have := yX ((l.drop 4).drop 4); omega)) (ai (cs4 h5) (ai (vQ hPe) (ai (cw ((l.drop 4).drop 4) 3) (ai (cid 3 h5 (by decide)) (ai (vN ((l.drop 4).drop 4)) (ai (DX (qJ ((l.drop 4).drop 4) 2)) (ai (cw ((l.drop 4).drop 4) 2) (ai (cid 2 h5 (by decide)) (ai (vT ((l.drop 4).drop 4)) (ai (AF (qJ ((l.drop 4).drop 4) 1)) (ai (cw ((l.drop 4).drop 4) 1) (ai (cid 1 h5 (by decide)) (ai (A5 (qJ ((l.drop 4).drop 4) 0)) (ai (cw ((l.drop 4).drop 4) 0) (ai (cid 0 h5 (by decide)) (ai (clt h5)
   (KO hNe hn hm h4 hN).down)))))))))))))))))
abbrev SB (l : LU0) := cn ((l.drop 4).drop 4) 3
abbrev TJ (l : LU0) := cn ((l.drop 4).drop 4) 2
abbrev Pj (l : LU0) := cn ((l.drop 4).drop 4) 1
abbrev PQ (l : LU0) := cn ((l.drop 4).drop 4) 0
def RH (l : LU0) : Nat × Ora := (121, tn (cn ((l.drop 4).drop 4) 0 * 16777216))
def RB (l : LU0) : Nat × Ora := (128, tn (cn ((l.drop 4).drop 4) 1 * 65536))
def R4 (l : LU0) : Nat × Ora := (136, tn (cn ((l.drop 4).drop 4) 2 * 256))
def R2 (l : LU0) : Nat × Ora := (137, tn (co2 ((l.drop 4).drop 4)))
def TV (l : LU0) : Nat × Ora := (129, tn (co1 ((l.drop 4).drop 4)))
def F7 (p : Nat) : Ora := { ch := 1, hi := fun _ => p }
def O9 (l : LU0) : Nat × Ora := (142, rO 1 (SB l))
def Qr (l : LU0) : Nat × Ora := (134, rO 1 (TJ l))
def Ua (l : LU0) : Nat × Ora := (126, rO 1 (Pj l))
def O8 (l : LU0) : Nat × Ora := (119, rO 1 (PQ l))
def Te (l : LU0) : Nat × Ora := (143, tn (SB l))
def RF (l : LU0) : Nat × Ora := (135, tn (TJ l))
def Sk (l : LU0) : Nat × Ora := (127, tn (Pj l))
def OO (l : LU0) : Nat × Ora := (120, tn (PQ l))
def TC (l : LU0) (N : Nat) (p : Nat) : LO0 := [(89, wF), (E3 N), (108, wF), (O8 l), (OO l), (RH l), (Ua l), (Sk l), (RB l), (TV l), (Qr l), (RF l), (R4 l), (R2 l), (O9 l), (Te l), (144, tn (p)), (151, rO 5 0), (157, wF), (175, wT), (190, (FX N))]
theorem abU (l : LU0) (N : Nat) (hNe : c4 (l.drop 4) = N) (hn : 4 <= l.length) (hm : l.take 4 = sL) (h4 : 4 <= (l.drop 4).length) (hN : N <= 4096) (p : Nat) (hPe : c4 ((l.drop 4).drop 4) = p) (h5 : 4 <= ((l.drop 4).drop 4).length) (h6 : (((l.drop 4).drop 4).drop 4).length < 4) (hx : (((l.drop 4).drop 4).drop 4).length = N * 172) : Gives prog 9 (sh l) zr :=
 sC ((AB l N) ++ (TC l N p) ++ [(198, wF), (200, (F7 p)), (208, lpO { I := HR ⟨N, ((p : Nat) : Int), 0, 0⟩ (pV l) 3, ex := .exit 0, E := qEz ⟨N, ((p : Nat) : Int), 0, 0⟩ (pV l) 3, fr := 249 }), (268, lpO { kd := 5, I := qX (pV l) 3, ex := .normal, E := qY 3, fr := 275 })]) (ai (show some (qX (pV l) 3) = some (qX (pV l) 3) from rfl) (ai (qW (pV l) 3) (ai (show some (HR ⟨N, ((p : Nat) : Int), 0, 0⟩ (pV l) 3) = some (HR ⟨N, ((p : Nat) : Int), 0, 0⟩ (pV l) 3) from rfl) (ai ((HC ⟨N, ((p : Nat) : Int), 0, 0⟩ (pV l) 3 (by decide)).pre [(244, 204)] (by kernel_rfl) (NB ⟨N, ((p : Nat) : Int), 0, 0⟩ (pV l) 3)) (ai (show IntKind.i64.wrap ((p : Nat) : Int) = ((p : Nat) : Int) from qc (by have := yX ((l.drop 4).drop 4); omega)) (ai (show ((((ofL (((l.drop 4).drop 4).drop 4)).size : Nat) : Int) != ((N * 172 : Nat) : Int)) = false from by
    have h1 : (((((l.drop 4).drop 4).drop 4).length : Nat) : Int) = ((N * 172 : Nat) : Int) := by omega
    exact z8 h1) (ai (Ja hNe hn hm h4 hN).down (ai (show decide ((((ofL (((l.drop 4).drop 4).drop 4)).size : Nat) : Int) < 4) = true from decide_eq_true (by show (((((l.drop 4).drop 4).drop 4).length : Nat) : Int) < 4; omega))
   (Se hNe hn hm h4 hN hPe h5).down))))))))
def Hn (h : QH) (sb : LU0) (e : Int) : LState := { n := 98, sl := [(2, .p 0 0), (4, .p 23 0), (7, .v (.int .u32 h.u)), (8, .p 211 0), (31, vi0 (h.N : Int)), (32, vi0 0)], hp := [(0, .own zcL 49), (23, .own [.c (.string (ofL sb)), ci0 e] 85), (211, .own [.c (.slice none 0 0), ci0 h.pub, ci0 h.vs] 49)] }
theorem M1 (h : QH) (sb : LU0) (e : Int) : qw (Hn h sb e).aa (qOz h sb e) [(244, 211)] := by
 have e : qw (Hn h sb e).aa (qOz h sb e) [(244, 211)] = (((qE 0) /\ (qE 0) /\ (rV (.int .u32 h.u)) /\ (qE 0) /\ (rV (.int .i64 (h.N : Int))) /\ (rV (.int .i64 0)) /\ True) /\ ((sp 49 zcL) /\ (sp 85 [.c (.string (ofL sb)), ci0 e]) /\ (sp 49 [.c (.slice none 0 0), ci0 h.pub, ci0 h.vs]) /\ True)) := by kernel_rfl
 rw [e]
 exact ⟨⟨rr0, rr0, rfl, rr0, rfl, rfl, tt0⟩, rr0, rr0, rr0, tt0⟩
theorem abe (l : LU0) (N : Nat) (hNe : c4 (l.drop 4) = N) (hn : 4 <= l.length) (hm : l.take 4 = sL) (h4 : 4 <= (l.drop 4).length) (hN : N <= 4096) (p : Nat) (hPe : c4 ((l.drop 4).drop 4) = p) (h5 : 4 <= ((l.drop 4).drop 4).length) (h6 : (((l.drop 4).drop 4).drop 4).length < 4) (hx : (((l.drop 4).drop 4).drop 4).length ≠ N * 172) : Gives prog 9 (sh l) zr :=
 sC ((AB l N) ++ (TC l N p) ++ [(198, wT), (207, (F7 p)), (215, lpO { I := Hn ⟨N, ((p : Nat) : Int), 0, 0⟩ (pV l) 3, ex := .exit 0, E := qEz ⟨N, ((p : Nat) : Int), 0, 0⟩ (pV l) 3, fr := 249 }), (268, lpO { kd := 5, I := qX (pV l) 3, ex := .normal, E := qY 3, fr := 275 })]) (ai (show some (qX (pV l) 3) = some (qX (pV l) 3) from rfl) (ai (qW (pV l) 3) (ai (show some (Hn ⟨N, ((p : Nat) : Int), 0, 0⟩ (pV l) 3) = some (Hn ⟨N, ((p : Nat) : Int), 0, 0⟩ (pV l) 3) from rfl) (ai ((HC ⟨N, ((p : Nat) : Int), 0, 0⟩ (pV l) 3 (by decide)).pre [(244, 211)] (by kernel_rfl) (M1 ⟨N, ((p : Nat) : Int), 0, 0⟩ (pV l) 3)) (ai (show IntKind.i64.wrap ((p : Nat) : Int) = ((p : Nat) : Int) from qc (by have := yX ((l.drop 4).drop 4); omega)) (ai (show ((((ofL (((l.drop 4).drop 4).drop 4)).size : Nat) : Int) != ((N * 172 : Nat) : Int)) = true from by
    have h1 : (((((l.drop 4).drop 4).drop 4).length : Nat) : Int) ≠ ((N * 172 : Nat) : Int) := by omega
    exact bne_iff_ne.2 h1) (ai (Ja hNe hn hm h4 hN).down (ai (show decide ((((ofL (((l.drop 4).drop 4).drop 4)).size : Nat) : Int) < 4) = true from decide_eq_true (by show (((((l.drop 4).drop 4).drop 4).length : Nat) : Int) < 4; omega))
   (Se hNe hn hm h4 hN hPe h5).down))))))))
def Hp (h : QH) (sb : LU0) (e : Int) : LState := { n := 98, sl := [(2, .p 0 0), (4, .p 23 0), (7, .v (.int .u32 h.u)), (8, .p 256 0), (31, vi0 (h.N : Int)), (32, vi0 0)], hp := [(0, .own zcL 49), (23, .own [.c (.string (ofL sb)), ci0 e] 85), (256, .own [.c (.slice none 0 0), ci0 h.pub, ci0 h.vs] 49)] }
theorem Nt (h : QH) (sb : LU0) (e : Int) : qw (Hp h sb e).aa (qOz h sb e) [(244, 256)] := by
 have e : qw (Hp h sb e).aa (qOz h sb e) [(244, 256)] = (((qE 0) /\ (qE 0) /\ (rV (.int .u32 h.u)) /\ (qE 0) /\ (rV (.int .i64 (h.N : Int))) /\ (rV (.int .i64 0)) /\ True) /\ ((sp 49 zcL) /\ (sp 85 [.c (.string (ofL sb)), ci0 e]) /\ (sp 49 [.c (.slice none 0 0), ci0 h.pub, ci0 h.vs]) /\ True)) := by kernel_rfl
 rw [e]
 exact ⟨⟨rr0, rr0, rfl, rr0, rfl, rfl, tt0⟩, rr0, rr0, rr0, tt0⟩
def XF {l : LU0} {N : Nat} (hNe : c4 (l.drop 4) = N) (hn : 4 <= l.length) (hm : l.take 4 = sL) (h4 : 4 <= (l.drop 4).length) (hN : N <= 4096) {p : Nat} (hPe : c4 ((l.drop 4).drop 4) = p) (h5 : 4 <= ((l.drop 4).drop 4).length) {q : Nat} (hQe : c4 (((l.drop 4).drop 4).drop 4) = q) (h6 : 4 <= (((l.drop 4).drop 4).drop 4).length) := PLift.up (ai (Ja hNe hn hm h4 hN).down (ai (show decide (((q : Nat) : Int) > 4294967295) = false from decide_eq_false (by have := yX (((l.drop 4).drop 4).drop 4); omega)) (ai (cs4 h6) (ai (vQ hQe) (ai (cw (pV l) 3) (ai (cid 3 h6 (by decide)) (ai (vN (pV l)) (ai (DX (qJ (pV l) 2)) (ai (cw (pV l) 2) (ai (cid 2 h6 (by decide)) (ai (vT (pV l)) (ai (AF (qJ (pV l) 1)) (ai (cw (pV l) 1) (ai (cid 1 h6 (by decide)) (ai (A5 (qJ (pV l) 0)) (ai (cw (pV l) 0) (ai (cid 0 h6 (by decide)) (ai (clt h6)
   (Se hNe hn hm h4 hN hPe h5).down))))))))))))))))))
def Yy (l : LU0) : Nat × Ora := (188, tn (cn (pV l) 0 * 16777216))
def ZV (l : LU0) : Nat × Ora := (195, tn (cn (pV l) 1 * 65536))
def Yc (l : LU0) : Nat × Ora := (203, tn (cn (pV l) 2 * 256))
def Zv (l : LU0) : Nat × Ora := (209, rO 1 (cn (pV l) 3))
def Zf (l : LU0) : Nat × Ora := (201, rO 1 (cn (pV l) 2))
def ZK (l : LU0) : Nat × Ora := (193, rO 1 (cn (pV l) 1))
def Yz (l : LU0) : Nat × Ora := (186, rO 1 (cn (pV l) 0))
def aaj (l : LU0) : Nat × Ora := (210, tn (cn (pV l) 3))
def YL (l : LU0) : Nat × Ora := (202, tn (cn (pV l) 2))
def aaM (l : LU0) : Nat × Ora := (194, tn (cn (pV l) 1))
def aad (l : LU0) : Nat × Ora := (187, tn (cn (pV l) 0))
def Zl (l : LU0) : Nat × Ora := (204, tn (co2 (pV l)))
def aa1 (l : LU0) : Nat × Ora := (196, tn (co1 (pV l)))
def xp (l : LU0) (N : Nat) (p : Nat) (q : Nat) : LO0 := [(9, wF), (14, rO 5 0), (16, wF), (21, rO 5 0), (40, wF), (RS l), (Re l), (OV l), (Tn l), (PC l), (QR l), (RJ l), (Sp l), (SG l), (Pt l), (QI l), (So l), (Sf l), (76, tn (N)), (83, rO 5 0), (89, wF), (E3 N), (108, wF), (O8 l), (OO l), (RH l), (Ua l), (Sk l), (RB l), (TV l), (Qr l), (RF l), (R4 l), (R2 l), (O9 l), (Te l), (144, tn (p)), (151, rO 5 0), (157, wF), (175, wF), (Yz l), (aad l), (Yy l), (ZK l), (aaM l), (ZV l), (aa1 l), (Zf l), (YL l), (Yc l), (Zl l), (Zv l), (aaj l), (211, tn (q)), (218, rO 5 0), (224, wF), (230, (FX N))]
theorem agn (l : LU0) (N : Nat) (hNe : c4 (l.drop 4) = N) (hn : 4 <= l.length) (hm : l.take 4 = sL) (h4 : 4 <= (l.drop 4).length) (hN : N <= 4096) (p : Nat) (hPe : c4 ((l.drop 4).drop 4) = p) (h5 : 4 <= ((l.drop 4).drop 4).length) (q : Nat) (hQe : c4 (((l.drop 4).drop 4).drop 4) = q) (h6 : 4 <= (((l.drop 4).drop 4).drop 4).length) (hx : ((((l.drop 4).drop 4).drop 4).drop 4).length ≠ N * 172) : Gives prog 9 (sh l) zr :=
 sC ((xp l N p q) ++ [(238, wT), (252, (F7 p)), (254, { ch := 1, hi := fun _ => q }), (260, lpO { I := Hp ⟨N, ((p : Nat) : Int), ((q : Nat) : Int), ((q : Nat) : Int)⟩ ((pV l).drop 4) 3, ex := .exit 0, E := qEz ⟨N, ((p : Nat) : Int), ((q : Nat) : Int), ((q : Nat) : Int)⟩ ((pV l).drop 4) 3, fr := 261 }), (280, lpO { kd := 5, I := qX ((pV l).drop 4) 3, ex := .normal, E := qY 3, fr := 287 })]) (ai (show some (qX ((pV l).drop 4) 3) = some (qX ((pV l).drop 4) 3) from rfl) (ai (qW ((pV l).drop 4) 3) (ai (show some (Hp ⟨N, ((p : Nat) : Int), ((q : Nat) : Int), ((q : Nat) : Int)⟩ ((pV l).drop 4) 3) = some (Hp ⟨N, ((p : Nat) : Int), ((q : Nat) : Int), ((q : Nat) : Int)⟩ ((pV l).drop 4) 3) from rfl) (ai ((HC ⟨N, ((p : Nat) : Int), ((q : Nat) : Int), ((q : Nat) : Int)⟩ ((pV l).drop 4) 3 (by decide)).pre [(244, 256)] (by kernel_rfl) (Nt ⟨N, ((p : Nat) : Int), ((q : Nat) : Int), ((q : Nat) : Int)⟩ ((pV l).drop 4) 3)) (ai (show IntKind.i64.wrap ((q : Nat) : Int) = ((q : Nat) : Int) from qc (by have := yX (((l.drop 4).drop 4).drop 4); omega)) (ai (show IntKind.i64.wrap ((p : Nat) : Int) = ((p : Nat) : Int) from qc (by have := yX ((l.drop 4).drop 4); omega)) (ai (show ((((ofL ((((l.drop 4).drop 4).drop 4).drop 4)).size : Nat) : Int) != ((N * 172 : Nat) : Int)) = true from by
    have h1 : ((((((l.drop 4).drop 4).drop 4).drop 4).length : Nat) : Int) ≠ ((N * 172 : Nat) : Int) := by omega
    exact bne_iff_ne.2 h1)
   (XF hNe hn hm h4 hN hPe h5 hQe h6).down)))))))
def Di {l : LU0} {N : Nat} (hNe : c4 (l.drop 4) = N) (hn : 4 <= l.length) (hm : l.take 4 = sL) (h4 : 4 <= (l.drop 4).length) (hN : N <= 4096) {p : Nat} (hPe : c4 ((l.drop 4).drop 4) = p) (h5 : 4 <= ((l.drop 4).drop 4).length) {q : Nat} (hQe : c4 (((l.drop 4).drop 4).drop 4) = q) (h6 : 4 <= (((l.drop 4).drop 4).drop 4).length) (hx : ((((l.drop 4).drop 4).drop 4).drop 4).length = N * 172) := PLift.up (ai (show IntKind.i64.wrap ((q : Nat) : Int) = ((q : Nat) : Int) from qc (by have := yX (((l.drop 4).drop 4).drop 4); omega)) (ai (show IntKind.i64.wrap ((p : Nat) : Int) = ((p : Nat) : Int) from qc (by have := yX ((l.drop 4).drop 4); omega)) (ai (show ((((ofL ((((l.drop 4).drop 4).drop 4).drop 4)).size : Nat) : Int) != ((N * 172 : Nat) : Int)) = false from by
    have h1 : ((((((l.drop 4).drop 4).drop 4).drop 4).length : Nat) : Int) = ((N * 172 : Nat) : Int) := by omega
    exact z8 h1)
   (XF hNe hn hm h4 hN hPe h5 hQe h6).down)))
def CL (l : LU0) (N : Nat) (p : Nat) (q : Nat) := PLift.up (show some (qOz ⟨N, ((p : Nat) : Int), ((q : Nat) : Int), ((q : Nat) : Int)⟩ ((pV l).drop 4) 0) = some (qOz ⟨N, ((p : Nat) : Int), ((q : Nat) : Int), ((q : Nat) : Int)⟩ ((pV l).drop 4) 0) from rfl)
def aao (q : Nat) : Nat × Ora := (242, { ch := 1, hi := fun _ => q })
def zp (p : Nat) (q : Nat) : LO0 := [(238, wF), (240, (F7 p)), (aao q)]
theorem agF (l : LU0) (N : Nat) (hNe : c4 (l.drop 4) = N) (hn : 4 <= l.length) (hm : l.take 4 = sL) (h4 : 4 <= (l.drop 4).length) (hN : N <= 4096) (p : Nat) (hPe : c4 ((l.drop 4).drop 4) = p) (h5 : 4 <= ((l.drop 4).drop 4).length) (q : Nat) (hQe : c4 (((l.drop 4).drop 4).drop 4) = q) (h6 : 4 <= (((l.drop 4).drop 4).drop 4).length) (hx : ((((l.drop 4).drop 4).drop 4).drop 4).length = N * 172) (j : Nat) (hj : j < N) (hg : ∀ i, i < j -> gE (((((l.drop 4).drop 4).drop 4).drop 4).drop (172 * i)) = 0) (hb : gE (((((l.drop 4).drop 4).drop 4).drop 4).drop (172 * j)) ≠ 0) : Gives prog 9 (sh l) (.tp [.ag zcL, vi0 (gE (((((l.drop 4).drop 4).drop 4).drop 4).drop (172 * j)))]) :=
 sC ((xp l N p q) ++ (zp p q) ++ [(248, lpO { I := qOz ⟨N, ((p : Nat) : Int), ((q : Nat) : Int), ((q : Nat) : Int)⟩ ((pV l).drop 4) 0, ex := .exit 0, E := qEr ⟨N, ((p : Nat) : Int), ((q : Nat) : Int), ((q : Nat) : Int)⟩ (gsC (gsv ((pV l).drop 4) (j + 1))) (j + 1) (gst (0, ((pV l).drop 4).drop (172 * j))).2 (gE (((pV l).drop 4).drop (172 * j))), fr := 249 }), (253, wF), (267, wT), (268, lpO { kd := 5, I := qX (gst (0, ((pV l).drop 4).drop (172 * j))).2 (gE (((pV l).drop 4).drop (172 * j))), ex := .normal, E := qY (gE (((pV l).drop 4).drop (172 * j))), fr := 275 })]) (ai (show some (qX (gst (0, ((pV l).drop 4).drop (172 * j))).2 (gE (((pV l).drop 4).drop (172 * j)))) = some (qX (gst (0, ((pV l).drop 4).drop (172 * j))).2 (gE (((pV l).drop 4).drop (172 * j)))) from rfl) (ai (qW (gst (0, ((pV l).drop 4).drop (172 * j))).2 (gE (((pV l).drop 4).drop (172 * j)))) (ai (show ((gE (((((l.drop 4).drop 4).drop 4).drop 4).drop (172 * j))) != 0) = true from by simpa using hb) (ai (show ((gE (((((l.drop 4).drop 4).drop 4).drop 4).drop (172 * j))) == 0) = false from by simpa using hb) (ai (CL l N p q).down (ai (Yv ⟨N, ((p : Nat) : Int), ((q : Nat) : Int), ((q : Nat) : Int)⟩ (show N <= 100000 by omega) ((((l.drop 4).drop 4).drop 4).drop 4) (by show 172 * N <= ((((l.drop 4).drop 4).drop 4).drop 4).length; omega) j hj hg hb)
   (Di hNe hn hm h4 hN hPe h5 hQe h6 hx).down))))))
def KU (l : LU0) (N : Nat) (p : Nat) (q : Nat) : Nat × Ora := (248, lpO { I := qOz ⟨N, ((p : Nat) : Int), ((q : Nat) : Int), ((q : Nat) : Int)⟩ ((pV l).drop 4) 0, ex := .exit 0, E := qEz ⟨N, ((p : Nat) : Int), ((q : Nat) : Int), ((q : Nat) : Int)⟩ ((pV l).drop 4) 0, fr := 249 })
abbrev KI (l : LU0) {N : Nat} (p : Nat) (q : Nat) (hz : N = 0) := uc (Lm ⟨N, ((p : Nat) : Int), ((q : Nat) : Int), ((q : Nat) : Int)⟩ ((pV l).drop 4) 0 hz.symm)
abbrev FB : AV := .tp [.ag zcL, vi0 1]
theorem adZ (l : LU0) (N : Nat) (hNe : c4 (l.drop 4) = N) (hn : 4 <= l.length) (hm : l.take 4 = sL) (h4 : 4 <= (l.drop 4).length) (hN : N <= 4096) (p : Nat) (hPe : c4 ((l.drop 4).drop 4) = p) (h5 : 4 <= ((l.drop 4).drop 4).length) (q : Nat) (hQe : c4 (((l.drop 4).drop 4).drop 4) = q) (h6 : 4 <= (((l.drop 4).drop 4).drop 4).length) (hx : ((((l.drop 4).drop 4).drop 4).drop 4).length = N * 172) (hz : N = 0) (hq : 2147483647 < q) : Gives prog 9 (sh l) FB :=
 sC ((xp l N p q) ++ (zp p q) ++ [(KU l N p q), (256, wT), (272, lpO { kd := 5, I := qX ((pV l).drop 4) 1, ex := .normal, E := qY 1, fr := 279 })]) (ai (show some (qX ((pV l).drop 4) 1) = some (qX ((pV l).drop 4) 1) from rfl) (ai (qW ((pV l).drop 4) 1) (ai (show decide (((q : Nat) : Int) > 2147483647) = true from decide_eq_true (by omega)) (ai (CL l N p q).down (ai (KI l p q hz)
   (Di hNe hn hm h4 hN hPe h5 hQe h6 hx).down)))))
abbrev PY (p : Nat) (q : Nat) : List XV := [.t (.ag [.c (.slice none 0 0), ci0 ((p : Nat) : Int), ci0 ((q : Nat) : Int)])]
def RW : Nat × Ora := (259, { ch := 0, hi := fun _ => 0, ex := 7, av := fun _ => .v (.bool false) })
theorem aci (l : LU0) (N : Nat) (hNe : c4 (l.drop 4) = N) (hn : 4 <= l.length) (hm : l.take 4 = sL) (h4 : 4 <= (l.drop 4).length) (hN : N <= 4096) (p : Nat) (hPe : c4 ((l.drop 4).drop 4) = p) (h5 : 4 <= ((l.drop 4).drop 4).length) (q : Nat) (hQe : c4 (((l.drop 4).drop 4).drop 4) = q) (h6 : 4 <= (((l.drop 4).drop 4).drop 4).length) (hx : ((((l.drop 4).drop 4).drop 4).drop 4).length = N * 172) (hz : N = 0) (hq : q <= 2147483647) (hr : Gives prog 36 (PY p q) (.v (.bool false))) : Gives prog 9 (sh l) FB :=
 sC ((xp l N p q) ++ (zp p q) ++ [(KU l N p q), (256, wF), RW, (272, lpO { kd := 5, I := qX ((pV l).drop 4) 1, ex := .normal, E := qY 1, fr := 279 })]) (ai (show some (qX ((pV l).drop 4) 1) = some (qX ((pV l).drop 4) 1) from rfl) (ai (qW ((pV l).drop 4) 1) (ai (show rP prog 36 [.t (.ag [.c (.slice none 0 0), ci0 ((p : Nat) : Int), ci0 ((q : Nat) : Int)])] (.v (.bool false)) from ⟨fun vs w => Go.Proofs.enters_of (P := prog) func36 (by kernel_rfl) rfl vs w, hr⟩) (ai (show decide (((q : Nat) : Int) > 2147483647) = false from decide_eq_false (by omega)) (ai (CL l N p q).down (ai (KI l p q hz)
   (Di hNe hn hm h4 hN hPe h5 hQe h6 hx).down))))))
def OU : Nat × Ora := (259, { ch := 0, hi := fun _ => 0, ex := 7, av := fun _ => .v (.bool true) })
theorem ab3 (l : LU0) (N : Nat) (hNe : c4 (l.drop 4) = N) (hn : 4 <= l.length) (hm : l.take 4 = sL) (h4 : 4 <= (l.drop 4).length) (hN : N <= 4096) (p : Nat) (hPe : c4 ((l.drop 4).drop 4) = p) (h5 : 4 <= ((l.drop 4).drop 4).length) (q : Nat) (hQe : c4 (((l.drop 4).drop 4).drop 4) = q) (h6 : 4 <= (((l.drop 4).drop 4).drop 4).length) (hx : ((((l.drop 4).drop 4).drop 4).drop 4).length = N * 172) (hz : N = 0) (hq : q <= 2147483647) (hr : Gives prog 36 (PY p q) (.v (.bool true))) : Gives prog 9 (sh l) (.tp [.ag [.c (.slice none 0 0), ci0 ((p : Nat) : Int), ci0 ((q : Nat) : Int)], vi0 0]) :=
 sC ((xp l N p q) ++ (zp p q) ++ [(KU l N p q), (256, wF), OU]) (ai (show rP prog 36 [.t (.ag [.c (.slice none 0 0), ci0 ((p : Nat) : Int), ci0 ((q : Nat) : Int)])] (.v (.bool true)) from ⟨fun vs w => Go.Proofs.enters_of (P := prog) func36 (by kernel_rfl) rfl vs w, hr⟩) (ai (show decide (((q : Nat) : Int) > 2147483647) = false from decide_eq_false (by omega)) (ai (CL l N p q).down (ai (KI l p q hz)
   (Di hNe hn hm h4 hN hPe h5 hQe h6 hx).down))))
def S0 (l : LU0) (N : Nat) (p : Nat) (q : Nat) : Nat × Ora := (248, lpO { I := qOz ⟨N, ((p : Nat) : Int), ((q : Nat) : Int), ((q : Nat) : Int)⟩ ((pV l).drop 4) 0, ex := .exit 0, E := qEr ⟨N, ((p : Nat) : Int), ((q : Nat) : Int), ((q : Nat) : Int)⟩ (gsC (gsv ((pV l).drop 4) N)) N (((pV l).drop 4).drop (172 * N)) 0, fr := 249 })
def Sy (l : LU0) (N : Nat) := PLift.up (show some (qX (((pV l).drop 4).drop (172 * N)) 1) = some (qX (((pV l).drop 4).drop (172 * N)) 1) from rfl)
def RE (l : LU0) (N : Nat) : Nat × Ora := (272, lpO { kd := 5, I := qX (((pV l).drop 4).drop (172 * N)) 1, ex := .normal, E := qY 1, fr := 279 })
theorem abB (l : LU0) (N : Nat) (hNe : c4 (l.drop 4) = N) (hn : 4 <= l.length) (hm : l.take 4 = sL) (h4 : 4 <= (l.drop 4).length) (hN : N <= 4096) (p : Nat) (hPe : c4 ((l.drop 4).drop 4) = p) (h5 : 4 <= ((l.drop 4).drop 4).length) (q : Nat) (hQe : c4 (((l.drop 4).drop 4).drop 4) = q) (h6 : 4 <= (((l.drop 4).drop 4).drop 4).length) (hx : ((((l.drop 4).drop 4).drop 4).drop 4).length = N * 172) (hz : 0 < N) (hg : ∀ i, i < N -> gE (((((l.drop 4).drop 4).drop 4).drop 4).drop (172 * i)) = 0) (hq : 2147483647 < q) : Gives prog 9 (sh l) FB :=
 sC ((xp l N p q) ++ (zp p q) ++ [(S0 l N p q), (256, wT), (RE l N)]) (ai (Sy l N).down (ai (qW (((pV l).drop 4).drop (172 * N)) 1) (ai (show decide (((q : Nat) : Int) > 2147483647) = true from decide_eq_true (by omega)) (ai (CL l N p q).down (ai (T8 ⟨N, ((p : Nat) : Int), ((q : Nat) : Int), ((q : Nat) : Int)⟩ hz (show N <= 100000 by omega) ((((l.drop 4).drop 4).drop 4).drop 4) (by show 172 * N <= ((((l.drop 4).drop 4).drop 4).drop 4).length; omega) hg)
   (Di hNe hn hm h4 hN hPe h5 hQe h6 hx).down)))))
abbrev Qf (l : LU0) (N : Nat) (p : Nat) (q : Nat) : List XV := [.ags [.r [.l (gsC (gsv ((((l.drop 4).drop 4).drop 4).drop 4) N))] N, .c (ci0 ((p : Nat) : Int)), .c (ci0 ((q : Nat) : Int))]]
theorem adH (l : LU0) (N : Nat) (hNe : c4 (l.drop 4) = N) (hn : 4 <= l.length) (hm : l.take 4 = sL) (h4 : 4 <= (l.drop 4).length) (hN : N <= 4096) (p : Nat) (hPe : c4 ((l.drop 4).drop 4) = p) (h5 : 4 <= ((l.drop 4).drop 4).length) (q : Nat) (hQe : c4 (((l.drop 4).drop 4).drop 4) = q) (h6 : 4 <= (((l.drop 4).drop 4).drop 4).length) (hx : ((((l.drop 4).drop 4).drop 4).drop 4).length = N * 172) (hz : 0 < N) (hg : ∀ i, i < N -> gE (((((l.drop 4).drop 4).drop 4).drop 4).drop (172 * i)) = 0) (hq : q <= 2147483647) (hr : Gives prog 36 (Qf l N p q) (.v (.bool false))) : Gives prog 9 (sh l) FB :=
 sC ((xp l N p q) ++ (zp p q) ++ [(S0 l N p q), (256, wF), RW, (RE l N)]) (ai (Sy l N).down (ai (qW (((pV l).drop 4).drop (172 * N)) 1) (ai (show rP prog 36 [.ags [.r [.l (gsC (gsv ((((l.drop 4).drop 4).drop 4).drop 4) N))] N, .c (ci0 ((p : Nat) : Int)), .c (ci0 ((q : Nat) : Int))]] (.v (.bool false)) from ⟨fun vs w => Go.Proofs.enters_of (P := prog) func36 (by kernel_rfl) rfl vs w, hr⟩) (ai (show decide (((q : Nat) : Int) > 2147483647) = false from decide_eq_false (by omega)) (ai (CL l N p q).down (ai (T8 ⟨N, ((p : Nat) : Int), ((q : Nat) : Int), ((q : Nat) : Int)⟩ hz (show N <= 100000 by omega) ((((l.drop 4).drop 4).drop 4).drop 4) (by show 172 * N <= ((((l.drop 4).drop 4).drop 4).drop 4).length; omega) hg)
   (Di hNe hn hm h4 hN hPe h5 hQe h6 hx).down))))))
theorem aeO (l : LU0) (N : Nat) (hNe : c4 (l.drop 4) = N) (hn : 4 <= l.length) (hm : l.take 4 = sL) (h4 : 4 <= (l.drop 4).length) (hN : N <= 4096) (p : Nat) (hPe : c4 ((l.drop 4).drop 4) = p) (h5 : 4 <= ((l.drop 4).drop 4).length) (q : Nat) (hQe : c4 (((l.drop 4).drop 4).drop 4) = q) (h6 : 4 <= (((l.drop 4).drop 4).drop 4).length) (hx : ((((l.drop 4).drop 4).drop 4).drop 4).length = N * 172) (hz : 0 < N) (hg : ∀ i, i < N -> gE (((((l.drop 4).drop 4).drop 4).drop 4).drop (172 * i)) = 0) (hq : q <= 2147483647) (hr : Gives prog 36 (Qf l N p q) (.v (.bool true))) : ye prog 9 (sh l) (fun k => .tp [.ag (.sx k N :: [ci0 ((p : Nat) : Int), ci0 ((q : Nat) : Int)]), vi0 0]) (.gr [.l (gsC (gsv ((((l.drop 4).drop 4).drop 4).drop 4) N))] 94 23) :=
 Bi (P := prog) (X := pN _) (env := []) trivial func9 (fun args w => Go.Proofs.enters_of (P := prog) func9 (by kernel_rfl) rfl args w) 3 (oL ((xp l N p q) ++ (zp p q) ++ [(S0 l N p q), (256, wF), OU])) (r0 := .tp [.ag (.sx 24 N :: [ci0 ((p : Nat) : Int), ci0 ((q : Nat) : Int)]), vi0 0]) 24 (by kernel_rfl) rfl (ai (show rP prog 36 [.ags [.r [.l (gsC (gsv ((((l.drop 4).drop 4).drop 4).drop 4) N))] N, .c (ci0 ((p : Nat) : Int)), .c (ci0 ((q : Nat) : Int))]] (.v (.bool true)) from ⟨fun vs w => Go.Proofs.enters_of (P := prog) func36 (by kernel_rfl) rfl vs w, hr⟩) (ai (show decide (((q : Nat) : Int) > 2147483647) = false from decide_eq_false (by omega)) (ai (CL l N p q).down (ai (T8 ⟨N, ((p : Nat) : Int), ((q : Nat) : Int), ((q : Nat) : Int)⟩ hz (show N <= 100000 by omega) ((((l.drop 4).drop 4).drop 4).drop 4) (by show 172 * N <= ((((l.drop 4).drop 4).drop 4).drop 4).length; omega) hg)
   (Di hNe hn hm h4 hN hPe h5 hQe h6 hx).down)))) _ (Ti rfl)
end Go.Proofs.YtokjhbmmdmeafaaGreat
set_option linter.unusedSimpArgs false
set_option linter.unusedVariables false
namespace Go.Proofs.YtokjhbmmdmeafaaGreat
open Go.Ev Go.RowKit
open Tryz
def gEs (l : LU0) : Nat -> Int
 | 0 => 0
 | n + 1 => if gEs l n = 0 then gE (l.drop (172 * n)) else gEs l n
theorem wk (l : LU0) : ∀ n, gEs l n = 0 -> ∀ i, i < n -> gE (l.drop (172 * i)) = 0
 | 0, _, i, hi => by omega
 | n + 1, h, i, hi => by
  by_cases h0 : gEs l n = 0
  ·rw [show gEs l (n + 1) = gE (l.drop (172 * n)) from if_pos h0] at h
   rcases Nat.lt_or_ge i n with hh | hh
   ·exact wk l n h0 i hh
   ·rw [show i = n by omega]; exact h
  ·rw [show gEs l (n + 1) = gEs l n from if_neg h0] at h
   exact absurd h h0
theorem EC (l : LU0) : ∀ n, gEs l n ≠ 0 -> ∃ j, j < n /\ (∀ i, i < j -> gE (l.drop (172 * i)) = 0) /\ gE (l.drop (172 * j)) = gEs l n
 | 0, h => absurd rfl h
 | n + 1, h => by
  by_cases h0 : gEs l n = 0
  ·exact ⟨n, by omega, wk l n h0, (if_pos h0).symm⟩
  ·obtain ⟨j, h1, h2, h3⟩ := EC l n h0
   exact ⟨j, by omega, h2, h3.trans (if_neg h0).symm⟩
instance (vs : Int) (g : GT) : Decidable (okW vs g) := by unfold okW bw; infer_instance
instance (gs : List GT) (pub vs : Int) : Decidable (uh gs pub vs) := by unfold uh; infer_instance
def N3 (l : LU0) (N p q : Nat) : Prop := q <= 2147483647 /\ uh (gsv ((((l.drop 4).drop 4).drop 4).drop 4) (N)) ((p : Nat) : Int) ((q : Nat) : Int)
instance (l : LU0) (N p q : Nat) : Decidable (N3 l N p q) := by unfold N3; infer_instance
def EI (l : LU0) (N p q : Nat) : Int :=
 if l.take 4 = sL then (if ((l.drop 4)).length < 4 then 3 else if 4096 < N then 2 else if (((l.drop 4).drop 4)).length < 4 then 3 else if ((((l.drop 4).drop 4).drop 4)).length < 4 then 3 else
  if (((((l.drop 4).drop 4).drop 4).drop 4)).length = N * 172 then (if gEs ((((l.drop 4).drop 4).drop 4).drop 4) (N) = 0 then (if N3 l N p q then 0 else 1) else gEs ((((l.drop 4).drop 4).drop 4).drop 4) (N)) else 3) else 80
theorem Ov {l m : LU0} (h : l.take 4 = m) (hm : m.length = 4) : 4 <= l.length := by
 have := congrArg List.length h
 rw [List.length_take] at this
 omega
theorem Ie (l : LU0) (N p q : Nat) (hz : 0 < N) (b : Bool) (h : b = true ↔ uh (gsv ((((l.drop 4).drop 4).drop 4).drop 4) (N)) ((p : Nat) : Int) ((q : Nat) : Int)) : Gives prog 36 [.ags [.r [.l (gsC (gsv ((((l.drop 4).drop 4).drop 4).drop 4) (N)))] (N), .c (ci0 ((p : Nat) : Int)), .c (ci0 ((q : Nat) : Int))]] (.v (.bool b)) := by
 have hl : (gsv ((((l.drop 4).drop 4).drop 4).drop 4) (N)).length = N := by simp [gsv]
 cases b with
 | true =>
  have hh := OW _ _ _ (h.1 rfl)
  rw [hl] at hh
  exact Gives.ags_r hh
 | false =>
  have hh := aet _ _ _ (fun hc => by have := h.2 hc; cases this)
  rw [hl] at hh
  exact Gives.ags_r hh
theorem Pn (l : LU0) (N p q : Nat) (hz : N = 0) (b : Bool) (h : b = true ↔ uh (gsv ((((l.drop 4).drop 4).drop 4).drop 4) (N)) ((p : Nat) : Int) ((q : Nat) : Int)) : Gives prog 36 [.t (.ag [.c (.slice none 0 0), ci0 ((p : Nat) : Int), ci0 ((q : Nat) : Int)])] (.v (.bool b)) := by
 rw [hz] at h
 have hr : uh (gsv ((((l.drop 4).drop 4).drop 4).drop 4) 0) ((p : Nat) : Int) ((q : Nat) : Int) ↔ p = 0 := by
  unfold uh
  constructor
  ·intro hh
   have := hh.2.2.1
   have e : (gsv ((((l.drop 4).drop 4).drop 4).drop 4) 0).length = 0 := rfl
   rw [e] at this
   omega
  ·intro hh
   refine ⟨by show 0 <= 4096; decide, by omega, by rw [hh]; exact Int.le_refl _, by omega, fun g hg => by cases hg⟩
 cases b with
 | true => exact V6 _ _ (by omega) (by have := hr.1 (h.1 rfl); omega) (by omega)
 | false => exact ZP _ _ (by omega) (by
   have : ¬ p = 0 := fun hc => by have := h.2 (hr.2 hc); cases this
   omega)
theorem Oi (l : LU0) (N p q : Nat) (hNe : c4 (l.drop 4) = N) (hPe : c4 ((l.drop 4).drop 4) = p) (hQe : c4 (((l.drop 4).drop 4).drop 4) = q) : (EI l N p q ≠ 0 /\ Gives prog 9 [.t (.v (.string (ofL l)))] (.tp [.ag zcL, vi0 (EI l N p q)])) ∨
  (EI l N p q = 0 /\ l.take 4 = sL /\ 4 <= ((l.drop 4)).length /\ N <= 4096 /\ 4 <= (((l.drop 4).drop 4)).length /\ 4 <= ((((l.drop 4).drop 4).drop 4)).length /\ (((((l.drop 4).drop 4).drop 4).drop 4)).length = N * 172 /\ gEs ((((l.drop 4).drop 4).drop 4).drop 4) (N) = 0 /\ N3 l N p q) := by
 by_cases hm : l.take 4 = sL
 ·have hn := Ov hm rfl
  have e0 : EI l N p q = _ := if_pos hm
  by_cases h4 : ((l.drop 4)).length < 4
  ·have e1 := e0.trans (if_pos h4)
   rw [e1]
   refine .inl ⟨by decide, ?_⟩
   by_cases hx : ((l.drop 4)).length = 0
   ·exact aeb l hn hm h4 hx
   ·exact adP l hn hm h4 hx
  have e1 := e0.trans (if_neg h4)
  have h4 : 4 <= ((l.drop 4)).length := by omega
  by_cases hN : 4096 < N
  ·rw [e1.trans (if_pos hN)]
   refine .inl ⟨by decide, ?_⟩
   by_cases hx : (((l.drop 4).drop 4)).length = 0
   ·exact abm l _ hNe hn hm h4 hN hx
   ·exact abg l _ hNe hn hm h4 hN hx
  have e2 := e1.trans (if_neg hN)
  have hN : N <= 4096 := by omega
  by_cases h5 : (((l.drop 4).drop 4)).length < 4
  ·rw [e2.trans (if_pos h5)]
   refine .inl ⟨by decide, ?_⟩
   by_cases hx : (((l.drop 4).drop 4)).length = N * 172
   ·exact abX l _ hNe hn hm h4 hN h5 hx
   ·exact aba l _ hNe hn hm h4 hN h5 hx
  have e3 := e2.trans (if_neg h5)
  have h5 : 4 <= (((l.drop 4).drop 4)).length := by omega
  by_cases h6 : ((((l.drop 4).drop 4).drop 4)).length < 4
  ·rw [e3.trans (if_pos h6)]
   refine .inl ⟨by decide, ?_⟩
   by_cases hx : ((((l.drop 4).drop 4).drop 4)).length = N * 172
   ·exact abU l _ hNe hn hm h4 hN _ hPe h5 h6 hx
   ·exact abe l _ hNe hn hm h4 hN _ hPe h5 h6 hx
  have e4 := e3.trans (if_neg h6)
  have h6 : 4 <= ((((l.drop 4).drop 4).drop 4)).length := by omega
  by_cases hx : (((((l.drop 4).drop 4).drop 4).drop 4)).length = N * 172
  ·have e5 := e4.trans (if_pos hx)
   by_cases hg : gEs ((((l.drop 4).drop 4).drop 4).drop 4) (N) = 0
   ·have e6 := e5.trans (if_pos hg)
    by_cases hk : N3 l N p q
    ·exact .inr ⟨e6.trans (if_pos hk), hm, h4, hN, h5, h6, hx, hg, hk⟩
    ·rw [e6.trans (if_neg hk)]
     refine .inl ⟨by decide, ?_⟩
     by_cases hq : q <= 2147483647
     ·have hr : ¬ uh (gsv ((((l.drop 4).drop 4).drop 4).drop 4) (N)) ((p : Nat) : Int) ((q : Nat) : Int) := fun hc => hk ⟨hq, hc⟩
      rcases Nat.eq_zero_or_pos (N) with hz | hz
      ·exact aci l _ hNe hn hm h4 hN _ hPe h5 _ hQe h6 hx hz hq (Pn l N p q hz false ⟨fun h => by (cases h), fun h => absurd h hr⟩)
      ·exact adH l _ hNe hn hm h4 hN _ hPe h5 _ hQe h6 hx hz (wk _ _ hg) hq (Ie l N p q hz false ⟨fun h => by (cases h), fun h => absurd h hr⟩)
     ·rcases Nat.eq_zero_or_pos (N) with hz | hz
      ·exact adZ l _ hNe hn hm h4 hN _ hPe h5 _ hQe h6 hx hz (by omega)
      ·exact abB l _ hNe hn hm h4 hN _ hPe h5 _ hQe h6 hx hz (wk _ _ hg) (by omega)
   ·have e6 := e5.trans (if_neg hg)
    obtain ⟨j, h7, h8, h9⟩ := EC _ _ hg
    rw [e6]
    refine .inl ⟨hg, ?_⟩
    rw [← h9]
    exact agF l _ hNe hn hm h4 hN _ hPe h5 _ hQe h6 hx j h7 h8 (by rw [h9]; exact hg)
  ·rw [e4.trans (if_neg hx)]
   exact .inl ⟨by decide, agn l _ hNe hn hm h4 hN _ hPe h5 _ hQe h6 hx⟩
 ·have e : EI l N p q = 80 := if_neg hm
  rw [e]
  refine .inl ⟨by decide, ?_⟩
  by_cases hn : l.length < 4
  ·exact af4 l hn
  ·exact afI l (by omega) hm
def GJ (l : LU0) : Int := EI l (c4 (l.drop 4)) (c4 ((l.drop 4).drop 4)) (c4 (((l.drop 4).drop 4).drop 4))
theorem H2 (l : LU0) : (GJ l ≠ 0 /\ Gives prog 9 [.t (.v (.string (ofL l)))] (.tp [.ag zcL, vi0 (GJ l)])) ∨
  (GJ l = 0 /\ l.take 4 = sL /\ 4 <= ((l.drop 4)).length /\ c4 (l.drop 4) <= 4096 /\ 4 <= (((l.drop 4).drop 4)).length /\ 4 <= ((((l.drop 4).drop 4).drop 4)).length /\ (((((l.drop 4).drop 4).drop 4).drop 4)).length = c4 (l.drop 4) * 172 /\ gEs ((((l.drop 4).drop 4).drop 4).drop 4) (c4 (l.drop 4)) = 0 /\ N3 l (c4 (l.drop 4)) (c4 ((l.drop 4).drop 4)) (c4 (((l.drop 4).drop 4).drop 4))) :=
 Oi l _ _ _ rfl rfl rfl
end Go.Proofs.YtokjhbmmdmeafaaGreat
