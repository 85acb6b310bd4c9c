/- Pruned: Gt. -/
import Derived.Test.YtokjhbmmdmeafaaGreatQZhGq1
import Derived.Test.YtokjhbmmdmeafaaGreatQGo
set_option linter.unusedSimpArgs false
set_option linter.unusedVariables false
namespace Go.Proofs.YtokjhbmmdmeafaaGreat
open Go.Ev Go.RowKit
open Tryz
abbrev D9 (v : Value) : Prop := true = true /\ true = true /\ [v] = [v]
abbrev sg (n : Nat) : Prop := true = true /\ n = n
abbrev zP (t : Nat) (l : List Ch) : Prop := t = t /\ flat l = flat l
abbrev xe (v : Value) : Prop := v = v
theorem adP (C : List Value) (g : GT) : flat ([.l C] ++ gP g) = flat [.l (C ++ gC g)] := by simp [flat, Ch.cells, gC]
theorem abe (g : GT) : flat (gP g) = flat [.l (gC g)] := by simp [flat, Ch.cells, gC]
def gst (st : Int × LU0) : Int × LU0 := nst 4 noE 3 (nst 32 gfE 5 st)
def gV (st : Int × LU0) : GT := qfB (qfA gt0 (fun j => rvl 32 gfV 0 (nst 32 gfE j st)) 5) (fun j => rvl 4 wV 0 (nst 4 noE j (nst 32 gfE 5 st))) 3
def gE (l : LU0) : Int := (nst 32 gfE 5 (0, l)).1
theorem X9 {l : LU0} (h : gE l = 0) : gst (0, l) = (0, l.drop 172) := by
 obtain ⟨_, h2, _⟩ := rq 5 (0, l) h
 unfold gst
 rw [h2, B5 3 (fun i _ => rfl), List.drop_drop]
theorem ace (st : Int × LU0) (h0 : st.1 = 0 -> 172 <= st.2.length) : (nst 32 gfE 5 st).1 = 0 -> 12 <= (nst 32 gfE 5 st).2.length := by
 intro h
 obtain ⟨h1, h2, _⟩ := rq 5 st h
 rw [h2]
 show 12 <= (st.2.drop (32 * 5)).length
 have := h0 h1
 rw [List.length_drop]
 omega
theorem SL (h : QH) (sb : LU0) : so (qJz h sb).aa (qAz h (qfA gt0 (fun j => rvl 32 gfV 0 (nst 32 gfE j (0, sb))) 0) sb 0 0) [] := by
 have e : so (qJz h sb).aa (qAz h (qfA gt0 (fun j => rvl 32 gfV 0 (nst 32 gfE j (0, sb))) 0) sb 0 0) [] = (((sg 0) /\ (sg 0) /\ (xe (.int .u32 h.u)) /\ (sg 0) /\ (sg 0) /\ (xe (.int .i64 (h.N : Int))) /\ (xe (.int .i64 0)) /\ ((sg 0) /\ (sg 4) /\ (sg 8) /\ (sg 12) /\ (sg 16) /\ True) /\ (xe (.int .i64 0)) /\ True) /\ ((zP 49 zcL) /\ (zP 85 [.c (.string (ofL sb)), ci0 0]) /\ (zP 49 [.c (.slice none 0 0), ci0 h.pub, ci0 h.vs]) /\ (94 = 94 /\ flat g0L = flat (gP (qfA gt0 (fun j => rvl 32 gfV 0 (nst 32 gfE j (0, sb))) 0))) /\ True)) := by kernel_rfl
 rw [e]
 exact ⟨⟨rr0, rr0, rfl, rr0, rr0, rfl, rfl, ⟨rr0, rr0, rr0, rr0, rr0, tt0⟩, rfl, tt0⟩, ⟨rr0, rr0, rr0, ⟨rfl, KN⟩, tt0⟩⟩
abbrev yV (sb : LU0) := qfA gt0 (fun j => rvl 32 gfV 0 (nst 32 gfE j (0, sb))) 5
abbrev tS (sb : LU0) := nst 32 gfE 5 (0, sb)
theorem Pn {c : Code} {I J : LState} {ex : Ex} {b : Prop} (o : LO0) (k : Nat) (τ : List (Nat × Nat)) (hb : b) (h : vZ prog (qa _) [] 3 (oL o) 0 false c k I J τ = some (ex, b) := by kernel_rfl) : Sound prog 0 false c I.aa ex J.aa := rh (P := prog) (X := qa _) (env := []) trivial h hb
abbrev Bb (a : AA) (e : Ex) (b : AA) : Prop := Sound prog 0 false (qc f9 0) a e b
theorem qoz (h : QH) (sb : LU0) (hi : 0 < h.N) (hl : 172 <= sb.length) : Bb (qOz h sb 0).aa .normal (qOr h (gC (gV (0, sb))) 1 (gst (0, sb)).2 (gst (0, sb)).1).aa :=
 Pn [(248, wT), (262, lpO { I := qJz h sb, ex := .exit 2, E := qBz h (yV sb) (tS sb).2 (tS sb).1, fr := 263 }), (264, lpO { I := qCz h (yV sb) (tS sb).2 (tS sb).1 0, ex := .exit 4, E := qBz h (gV (0, sb)) (gst (0, sb)).2 (gst (0, sb)).1, fr := 265 })] 248 [(24, 269)] (ai (show ((sg 0) /\ (sg 0) /\ (xe (.int .u32 h.u)) /\ (sg 0) /\ (xe (.int .i64 (h.N : Int))) /\ (Value.int .i64 (IntKind.i64.wrap (0 + 1))) = (Value.int .i64 ((1 : Nat) : Int)) /\ True) /\ ((zP 49 zcL) /\ (zP 85 [.c (.string (ofL (gst (0, sb)).2)), ci0 (gst (0, sb)).1]) /\ (49 = 49 /\ (sg 1) /\ (D9 (.int .i64 h.pub)) /\ (D9 (.int .i64 h.vs)) /\ True) /\ ((94 = 94 /\ 23 = 23) /\ flat (gP (gV (0, sb))) = flat [.l (gC (gV (0, sb)))]) /\ True) from ⟨⟨rr0, rr0, rfl, rr0, rfl, rfl, tt0⟩, ⟨rr0, rr0, ⟨rfl, rr0, r30, r30, tt0⟩, ⟨rr0, abe _⟩, tt0⟩⟩) (ai (show some (qCz h (yV sb) (tS sb).2 (tS sb).1 0) = some (qCz h (yV sb) (tS sb).2 (tS sb).1 0) from rfl) (ai (SK h (yV sb) (tS sb) (ace (0, sb) (fun _ => hl))) (ai (show some (qJz h sb) = some (qJz h sb) from rfl) (ai ((SZ h gt0 (0, sb) (fun _ => by show 160 <= sb.length; omega)).pre [] (by kernel_rfl) (SL h sb)) (ai (show decide ((0 : Int) < ((h.N : Nat) : Int)) = true from decide_eq_true (by omega)) tt0))))))
theorem Rv {c : Code} {I L : LState} {ex : Ex} {b : Prop} (o : LO0) (k : Nat) (sk hk : List Nat) (hb : b) (h : uG prog (qa _) [] 0 (oL o) 0 false c k I sk hk [] = some (ex, L, b) := by kernel_rfl) : Sound prog 0 false c I.aa ex L.aa := p9 (P := prog) (X := qa _) (env := []) trivial h hb
theorem TG (h : QH) (sb : LU0) (e : Int) (hi : 0 = h.N) : Bb (qOz h sb e).aa (.exit 0) (qEz h sb e).aa :=
 Rv [(248, wF)] 248 [2, 4, 7, 8] [0, 23, 244] (ai (show decide ((0 : Int) < ((h.N : Nat) : Int)) = false from decide_eq_false (by omega)) tt0)
theorem TS (h : QH) (C : List Value) (i : Nat) (sb : LU0) : so (qJr h C i sb).aa (qAr h C i (qfA gt0 (fun j => rvl 32 gfV 0 (nst 32 gfE j (0, sb))) 0) sb 0 0) [] := by
 have e : so (qJr h C i sb).aa (qAr h C i (qfA gt0 (fun j => rvl 32 gfV 0 (nst 32 gfE j (0, sb))) 0) sb 0 0) [] = (((sg 0) /\ (sg 0) /\ (xe (.int .u32 h.u)) /\ (sg 0) /\ (sg 0) /\ (xe (.int .i64 (h.N : Int))) /\ (xe (.int .i64 (i : Int))) /\ ((sg 0) /\ (sg 4) /\ (sg 8) /\ (sg 12) /\ (sg 16) /\ True) /\ (xe (.int .i64 0)) /\ True) /\ ((zP 49 zcL) /\ (zP 85 [.c (.string (ofL sb)), ci0 0]) /\ (49 = 49 /\ (sg i) /\ (D9 (.int .i64 h.pub)) /\ (D9 (.int .i64 h.vs)) /\ True) /\ (94 = 94 /\ flat g0L = flat (gP (qfA gt0 (fun j => rvl 32 gfV 0 (nst 32 gfE j (0, sb))) 0))) /\ ((94 = 94 /\ 23 = 23) /\ flat [.l C] = flat [.l C]) /\ True)) := by kernel_rfl
 rw [e]
 exact ⟨⟨rr0, rr0, rfl, rr0, rr0, rfl, rfl, ⟨rr0, rr0, rr0, rr0, rr0, tt0⟩, rfl, tt0⟩, ⟨rr0, rr0, ⟨rfl, rr0, r30, r30, tt0⟩, ⟨rfl, KN⟩, ⟨rr0, rfl⟩, tt0⟩⟩
theorem qor (h : QH) (C : List Value) (i : Nat) (sb : LU0) (hi : i < h.N) (hN : h.N <= 100000) (hC : C.length = i * 23) (hl : 172 <= sb.length) : Bb (qOr h C i sb 0).aa .normal (qOr h (C ++ gC (gV (0, sb))) (i + 1) (gst (0, sb)).2 (gst (0, sb)).1).aa :=
 Pn [(248, wT), (262, lpO { I := qJr h C i sb, ex := .exit 2, E := qBr h C i (yV sb) (tS sb).2 (tS sb).1, fr := 263 }), (264, lpO { I := qCr h C i (yV sb) (tS sb).2 (tS sb).1 0, ex := .exit 4, E := qBr h C i (gV (0, sb)) (gst (0, sb)).2 (gst (0, sb)).1, fr := 265 }), (269, { ch := 0, hi := fun _ => 0, ex := 1 })] 248 [(24, 269)] (ai (show ((sg 0) /\ (sg 0) /\ (xe (.int .u32 h.u)) /\ (sg 0) /\ (xe (.int .i64 (h.N : Int))) /\ (Value.int .i64 (IntKind.i64.wrap ((i : Int) + 1))) = (Value.int .i64 ((i + 1 : Nat) : Int)) /\ True) /\ ((zP 49 zcL) /\ (zP 85 [.c (.string (ofL (gst (0, sb)).2)), ci0 (gst (0, sb)).1]) /\ (49 = 49 /\ (sg (i + 1)) /\ (D9 (.int .i64 h.pub)) /\ (D9 (.int .i64 h.vs)) /\ True) /\ ((94 = 94 /\ 23 = 23) /\ flat ([.l C] ++ gP (gV (0, sb))) = flat [.l (C ++ gC (gV (0, sb)))]) /\ True) from ⟨⟨rr0, rr0, rfl, rr0, rfl, by rw [show IntKind.i64.wrap ((i : Int) + 1) = ((i + 1 : Nat) : Int) by rw [qj]; omega], tt0⟩, ⟨rr0, rr0, ⟨rfl, rr0, r30, r30, tt0⟩, ⟨rr0, adP C _⟩, tt0⟩⟩) (ai (show qq [.l C] = i * 23 /\ i + 1 <= 9223372036854775807 /\ (i + 1) * 184 <= 140737488355328 /\ True from ⟨by show C.length + 0 = i * 23; omega, by omega, by omega, tt0⟩) (ai (show some (qCr h C i (yV sb) (tS sb).2 (tS sb).1 0) = some (qCr h C i (yV sb) (tS sb).2 (tS sb).1 0) from rfl) (ai (TR h C i (yV sb) (tS sb) (ace (0, sb) (fun _ => hl))) (ai (show some (qJr h C i sb) = some (qJr h C i sb) from rfl) (ai ((Ua h C i gt0 (0, sb) (fun _ => by show 160 <= sb.length; omega)).pre [] (by kernel_rfl) (TS h C i sb)) (ai (show decide (((i : Nat) : Int) < ((h.N : Nat) : Int)) = true from decide_eq_true (by omega)) tt0)))))))
theorem Ul (h : QH) (C : List Value) (i : Nat) (sb : LU0) (e : Int) (hi : i = h.N) : Bb (qOr h C i sb e).aa (.exit 0) (qEr h C i sb e).aa :=
 Rv [(248, wF)] 248 [2, 4, 7, 8] [0, 23, 244, 24] (ai (show decide (((i : Nat) : Int) < ((h.N : Nat) : Int)) = false from decide_eq_false (by omega)) tt0)
def gsv (l : LU0) (i : Nat) : List GT := (List.range i).map fun j => gV (0, l.drop (172 * j))
theorem Pz (l : LU0) (i : Nat) : gsC (gsv l (i + 1)) = gsC (gsv l i) ++ gC (gV (0, l.drop (172 * i))) := by
 unfold gsv
 rw [List.range_succ, List.map_append]
 simp [gsC]
theorem K9 : ∀ l : List GT, (gsC l).length = l.length * 23
 | [] => rfl
 | g :: l => by
  have ih := K9 l
  simp only [gsC, List.flatMap_cons, List.length_append, Ba, List.length_cons] at ih ⊢
  omega
theorem TW (l : LU0) (i : Nat) : (gsC (gsv l i)).length = i * 23 := by
 rw [K9]; simp [gsv]
def qF (h : QH) (l : LU0) : Nat -> LState
 | 0 => qOz h l 0
 | i + 1 => qOr h (gsC (gsv l (i + 1))) (i + 1) (l.drop (172 * (i + 1))) 0
theorem WN (h : QH) (hN : h.N <= 100000) (l : LU0) (i : Nat) (hi : i < h.N) (hl : 172 * h.N <= l.length) : Bb (qF h l i).aa .normal (qOr h (gsC (gsv l (i + 1))) (i + 1) (gst (0, l.drop (172 * i))).2 (gst (0, l.drop (172 * i))).1).aa := by
 rw [Pz]
 cases i with
 | zero =>
  rw [show gsC (gsv l 0) = [] from rfl, List.nil_append, show l.drop (172 * 0) = l from rfl]
  exact qoz h l hi (by omega)
 | succ k => exact qor h (gsC (gsv l (k + 1))) (k + 1) (l.drop (172 * (k + 1))) hi hN (TW l _) (by rw [List.length_drop]; omega)
theorem Yc (h : QH) (hN : h.N <= 100000) (l : LU0) (i : Nat) (hi : i < h.N) (hl : 172 * h.N <= l.length) (hg : gE (l.drop (172 * i)) = 0) : Bb (qF h l i).aa .normal (qF h l (i + 1)).aa := by
 have hh := WN h hN l i hi hl
 rw [X9 hg, List.drop_drop, show 172 * i + 172 = 172 * (i + 1) by omega] at hh
 exact hh
theorem abJ (h : QH) (h1 : 0 < h.N) (hN : h.N <= 100000) (l : LU0) (hl : 172 * h.N <= l.length) (hg : ∀ i, i < h.N -> gE (l.drop (172 * i)) = 0) : Sound prog 0 false (.loop (qc f9 0)) (qOz h l 0).aa (.exit 0) (qEr h (gsC (gsv l h.N)) h.N (l.drop (172 * h.N)) 0).aa := by
 have hh := qw (P := prog) (fb := 0) (rd := false) (body := (qc f9 0)) (ex := .exit 0) (E := qEr h (gsC (gsv l h.N)) h.N (l.drop (172 * h.N)) 0) (m := fun y : { i : Nat // i <= h.N } => h.N - y.val) (fun y => qF h l y.val) (by simp) (fun y => ?_) ⟨0, by omega⟩
 ·exact hh
 obtain ⟨i, hi⟩ := y
 by_cases e : i < h.N
 ·exact .inl ⟨⟨i + 1, e⟩, by show h.N - (i + 1) < h.N - i; omega, Yc h hN l i e hl (hg i e)⟩
 ·refine .inr ?_
  cases i with
  | zero => omega
  | succ k =>
   have e : k + 1 = h.N := by omega
   show Sound _ _ _ _ (qOr h (gsC (gsv l (k + 1))) (k + 1) (l.drop (172 * (k + 1))) 0).aa _ _
   rw [e]
   exact Ul h _ h.N _ 0 rfl
end Go.Proofs.YtokjhbmmdmeafaaGreat
set_option linter.unusedSimpArgs false
set_option linter.unusedVariables false
namespace Go.Proofs.YtokjhbmmdmeafaaGreat
open Go.Ev Go.RowKit
open Tryz
theorem Gives.ags_r {P : Program} {f : FuncId} {cs : List Ch} {len : Nat} {l : List XPc} {r : AV} (h : Gives P f [.ags (.z cs len :: l)] r) : Gives P f [.ags (.r cs len :: l)] r := by
 obtain ⟨v, hv, hr⟩ := h
 refine ⟨v, hv, fun w vs hx => hr w vs ?_⟩
 match vs, hx with
 | [], hx => exact hx.elim
 | _ :: _ :: _, hx => exact hx.2.elim
 | [y], hx =>
  obtain ⟨⟨cells, rfl, hp, b, off, room, r', rfl, hlt, hra, hl⟩, _⟩ := hx
  exact ⟨⟨_, rfl, _, r', rfl, ⟨hp, by omega, .inr ⟨b, off, room, rfl, hlt, hra⟩⟩, hl⟩, tt0⟩
def Px : LU0 := [67, 72, 67, 49]
abbrev rQ (l : LU0) := ((l.drop 4).drop 4).drop 4
def VG {l : LU0} {N : Nat} (hNe : c4 (l.drop 4) = N) (hn : 4 <= l.length) (hm : l.take 4 = Px) (h4 : 4 <= (l.drop 4).length) (hN : N <= 4096) {p : Nat} (hPe : c4 ((l.drop 4).drop 4) = p) (h5 : 4 <= ((l.drop 4).drop 4).length) {q : Nat} (hQe : c4 (((l.drop 4).drop 4).drop 4) = q) (h6 : 4 <= (((l.drop 4).drop 4).drop 4).length) (hx : ((((l.drop 4).drop 4).drop 4).drop 4).length = N * 172) (hq : q <= 2147483647) := PLift.up (ai (show IntKind.i64.wrap ((q : Nat) : Int) = ((q : Nat) : Int) from rH (by have := Ew (((l.drop 4).drop 4).drop 4); omega)) (ai (show IntKind.i64.wrap ((p : Nat) : Int) = ((p : Nat) : Int) from rH (by have := Ew ((l.drop 4).drop 4); omega)) (ai (show ((((ofL ((((l.drop 4).drop 4).drop 4).drop 4)).size : Nat) : Int) != ((N * 172 : Nat) : Int)) = false from by
    have h1 : ((((((l.drop 4).drop 4).drop 4).drop 4).length : Nat) : Int) = ((N * 172 : Nat) : Int) := by omega
    exact SY h1) (ai (show IntKind.i64.wrap (((N : Nat) : Int) * 172) = ((N * 172 : Nat) : Int) from by
    rw [show ((N : Nat) : Int) * 172 = ((N * 172 : Nat) : Int) by omega]
    exact rH (by omega)) (ai (show decide (((q : Nat) : Int) > 4294967295) = false from decide_eq_false (by have := Ew (((l.drop 4).drop 4).drop 4); omega)) (ai (cs4 h6) (ai (zi hQe) (ai (cw (rQ l) 3) (ai (cid 3 h6 (by decide)) (ai (zo (rQ l)) (ai (Cx (qU (rQ l) 2)) (ai (cw (rQ l) 2) (ai (cid 2 h6 (by decide)) (ai (zb (rQ l)) (ai (zn (qU (rQ l) 1)) (ai (cw (rQ l) 1) (ai (cid 1 h6 (by decide)) (ai (zg (qU (rQ l) 0)) (ai (cw (rQ l) 0) (ai (cid 0 h6 (by decide)) (ai (clt h6) (ai (show decide (((p : Nat) : Int) > 4294967295) = false from decide_eq_false (by have := Ew ((l.drop 4).drop 4); omega)) (ai (cs4 h5) (ai (zi hPe) (ai (cw ((l.drop 4).drop 4) 3) (ai (cid 3 h5 (by decide)) (ai (zo ((l.drop 4).drop 4)) (ai (Cx (qU ((l.drop 4).drop 4) 2)) (ai (cw ((l.drop 4).drop 4) 2) (ai (cid 2 h5 (by decide)) (ai (zb ((l.drop 4).drop 4)) (ai (zn (qU ((l.drop 4).drop 4) 1)) (ai (cw ((l.drop 4).drop 4) 1) (ai (cid 1 h5 (by decide)) (ai (zg (qU ((l.drop 4).drop 4) 0)) (ai (cw ((l.drop 4).drop 4) 0) (ai (cid 0 h5 (by decide)) (ai (clt h5) (ai (show IntKind.i64.wrap ((N : Nat) : Int) = ((N : Nat) : Int) from rH (by omega)) (ai (show decide (((N : Nat) : Int) > 4096) = false from decide_eq_false (by omega)) (ai (cs4 h4) (ai (zi hNe) (ai (cw (l.drop 4) 3) (ai (cid 3 h4 (by decide)) (ai (zo (l.drop 4)) (ai (Cx (qU (l.drop 4) 2)) (ai (cw (l.drop 4) 2) (ai (cid 2 h4 (by decide)) (ai (zb (l.drop 4)) (ai (zn (qU (l.drop 4) 1)) (ai (cw (l.drop 4) 1) (ai (cid 1 h4 (by decide)) (ai (zg (qU (l.drop 4) 0)) (ai (cw (l.drop 4) 0) (ai (cid 0 h4 (by decide)) (ai (clt h4) (ai (show (0 : Int) <= 4 /\ (4 : Int) <= (ofL l).size from ⟨by decide, by show (4 : Int) <= ((l).length : Nat); omega⟩) (ai (show (!((ofL (l.take 4)).toList == (ofL Px).toList)) = false from by rw [hm]; simp) (ai (show (0 : Int) <= 4 /\ (4 : Int) <= (ofL l).size from ⟨by decide, by show (4 : Int) <= ((l).length : Nat); omega⟩) (ai (show decide ((((ofL l).size : Nat) : Int) < 4) = false from decide_eq_false (by show ¬ ((l.length : Nat) : Int) < 4; omega)) tt0))))))))))))))))))))))))))))))))))))))))))))))))))))))))))))
abbrev Lo (l : LU0) (N : Nat) (p : Nat) (q : Nat) := qOz ⟨N, ((p : Nat) : Int), ((q : Nat) : Int), ((q : Nat) : Int)⟩ ((rQ l).drop 4) 0
def VX : Nat × Ora := (259, { ch := 0, hi := fun _ => 0, ex := 7, av := fun _ => .v (.bool true) })
def Wg (l : LU0) (N : Nat) (p : Nat) (q : Nat) : LO0 := [(9, wF), (14, rO 5 0), (16, wF), (21, rO 5 0), (40, wF), (51, rO 1 (cn (l.drop 4) 0)), (52, tn (cn (l.drop 4) 0)), (53, tn (cn (l.drop 4) 0 * 16777216)), (58, rO 1 (cn (l.drop 4) 1)), (59, tn (cn (l.drop 4) 1)), (60, tn (cn (l.drop 4) 1 * 65536)), (61, tn (co1 (l.drop 4))), (66, rO 1 (cn (l.drop 4) 2)), (67, tn (cn (l.drop 4) 2)), (68, tn (cn (l.drop 4) 2 * 256)), (69, tn (co2 (l.drop 4))), (74, rO 1 (cn (l.drop 4) 3)), (75, tn (cn (l.drop 4) 3)), (76, tn (N)), (83, rO 5 0), (89, wF), (92, { ch := 1, hi := fun _ => N }), (108, wF), (119, rO 1 (cn ((l.drop 4).drop 4) 0)), (120, tn (cn ((l.drop 4).drop 4) 0)), (121, tn (cn ((l.drop 4).drop 4) 0 * 16777216)), (126, rO 1 (cn ((l.drop 4).drop 4) 1)), (127, tn (cn ((l.drop 4).drop 4) 1)), (128, tn (cn ((l.drop 4).drop 4) 1 * 65536)), (129, tn (co1 ((l.drop 4).drop 4))), (134, rO 1 (cn ((l.drop 4).drop 4) 2)), (135, tn (cn ((l.drop 4).drop 4) 2)), (136, tn (cn ((l.drop 4).drop 4) 2 * 256)), (137, tn (co2 ((l.drop 4).drop 4))), (142, rO 1 (cn ((l.drop 4).drop 4) 3)), (143, tn (cn ((l.drop 4).drop 4) 3)), (144, tn (p)), (151, rO 5 0), (157, wF), (175, wF), (186, rO 1 (cn (rQ l) 0)), (187, tn (cn (rQ l) 0)), (188, tn (cn (rQ l) 0 * 16777216)), (193, rO 1 (cn (rQ l) 1)), (194, tn (cn (rQ l) 1)), (195, tn (cn (rQ l) 1 * 65536)), (196, tn (co1 (rQ l))), (201, rO 1 (cn (rQ l) 2)), (202, tn (cn (rQ l) 2)), (203, tn (cn (rQ l) 2 * 256)), (204, tn (co2 (rQ l))), (209, rO 1 (cn (rQ l) 3)), (210, tn (cn (rQ l) 3)), (211, tn (q)), (218, rO 5 0), (224, wF), (230, { ch := 1, hi := fun _ => N * 172 }), (238, wF), (240, { ch := 1, hi := fun _ => p }), (242, { ch := 1, hi := fun _ => q })]
theorem Y6 (l : LU0) (N : Nat) (hNe : c4 (l.drop 4) = N) (hn : 4 <= l.length) (hm : l.take 4 = Px) (h4 : 4 <= (l.drop 4).length) (hN : N <= 4096) (p : Nat) (hPe : c4 ((l.drop 4).drop 4) = p) (h5 : 4 <= ((l.drop 4).drop 4).length) (q : Nat) (hQe : c4 (((l.drop 4).drop 4).drop 4) = q) (h6 : 4 <= (((l.drop 4).drop 4).drop 4).length) (hx : ((((l.drop 4).drop 4).drop 4).drop 4).length = N * 172) (hz : N = 0) (hq : q <= 2147483647) (hr : Gives prog 36 [.t (.ag [.c (.slice none 0 0), ci0 ((p : Nat) : Int), ci0 ((q : Nat) : Int)])] (.v (.bool true))) : Gives prog 9 [.t (.v (.string (ofL l)))] (.tp [.ag [.c (.slice none 0 0), ci0 ((p : Nat) : Int), ci0 ((q : Nat) : Int)], vi0 0]) :=
 p6 (P := prog) (X := qa _) (env := []) trivial func9 3 (oL ((Wg l N p q) ++ [(248, lpO { I := qOz ⟨N, ((p : Nat) : Int), ((q : Nat) : Int), ((q : Nat) : Int)⟩ ((rQ l).drop 4) 0, ex := .exit 0, E := qEz ⟨N, ((p : Nat) : Int), ((q : Nat) : Int), ((q : Nat) : Int)⟩ ((rQ l).drop 4) 0, fr := 249 }), (256, wF), VX])) (by kernel_rfl) ⟨_, rfl⟩ (ai (show qN prog 36 [.t (.ag [.c (.slice none 0 0), ci0 ((p : Nat) : Int), ci0 ((q : Nat) : Int)])] (.v (.bool true)) from ⟨fun vs w => Go.Proofs.enters_of (P := prog) func36 (by kernel_rfl) rfl vs w, hr⟩) (ai (show decide (((q : Nat) : Int) > 2147483647) = false from decide_eq_false (by omega)) (ai (show some (Lo l N p q) = some (Lo l N p q) from rfl) (ai (Cz (TG ⟨N, ((p : Nat) : Int), ((q : Nat) : Int), ((q : Nat) : Int)⟩ ((rQ l).drop 4) 0 hz.symm))
   (VG hNe hn hm h4 hN hPe h5 hQe h6 hx hq).down))))
theorem aca (l : LU0) (N : Nat) (hNe : c4 (l.drop 4) = N) (hn : 4 <= l.length) (hm : l.take 4 = Px) (h4 : 4 <= (l.drop 4).length) (hN : N <= 4096) (p : Nat) (hPe : c4 ((l.drop 4).drop 4) = p) (h5 : 4 <= ((l.drop 4).drop 4).length) (q : Nat) (hQe : c4 (((l.drop 4).drop 4).drop 4) = q) (h6 : 4 <= (((l.drop 4).drop 4).drop 4).length) (hx : ((((l.drop 4).drop 4).drop 4).drop 4).length = N * 172) (hz : 0 < N) (hg : ∀ i, i < N -> gE (((((l.drop 4).drop 4).drop 4).drop 4).drop (172 * i)) = 0) (hq : q <= 2147483647) (hr : Gives prog 36 [.ags [.r [.l (gsC (gsv ((((l.drop 4).drop 4).drop 4).drop 4) N))] N, .c (ci0 ((p : Nat) : Int)), .c (ci0 ((q : Nat) : Int))]] (.v (.bool true))) : xU prog 9 [.t (.v (.string (ofL l)))] (fun k => .tp [.ag (.sx k N :: [ci0 ((p : Nat) : Int), ci0 ((q : Nat) : Int)]), vi0 0]) (.gr [.l (gsC (gsv ((((l.drop 4).drop 4).drop 4).drop 4) N))] 94 23) :=
 Ao (P := prog) (X := qa _) (env := []) trivial func9 (fun args w => Go.Proofs.enters_of (P := prog) func9 (by kernel_rfl) rfl args w) 3 (oL ((Wg l N p q) ++ [(248, lpO { I := qOz ⟨N, ((p : Nat) : Int), ((q : Nat) : Int), ((q : Nat) : Int)⟩ ((rQ l).drop 4) 0, ex := .exit 0, E := qEr ⟨N, ((p : Nat) : Int), ((q : Nat) : Int), ((q : Nat) : Int)⟩ (gsC (gsv ((rQ l).drop 4) N)) N (((rQ l).drop 4).drop (172 * N)) 0, fr := 249 }), (256, wF), VX])) (r0 := .tp [.ag (.sx 24 N :: [ci0 ((p : Nat) : Int), ci0 ((q : Nat) : Int)]), vi0 0]) 24 (by kernel_rfl) rfl (ai (show qN prog 36 [.ags [.r [.l (gsC (gsv ((((l.drop 4).drop 4).drop 4).drop 4) N))] N, .c (ci0 ((p : Nat) : Int)), .c (ci0 ((q : Nat) : Int))]] (.v (.bool true)) from ⟨fun vs w => Go.Proofs.enters_of (P := prog) func36 (by kernel_rfl) rfl vs w, hr⟩) (ai (show decide (((q : Nat) : Int) > 2147483647) = false from decide_eq_false (by omega)) (ai (show some (Lo l N p q) = some (Lo l N p q) from rfl) (ai (abJ ⟨N, ((p : Nat) : Int), ((q : Nat) : Int), ((q : Nat) : Int)⟩ hz (show N <= 100000 by omega) ((((l.drop 4).drop 4).drop 4).drop 4) (by show 172 * N <= ((((l.drop 4).drop 4).drop 4).drop 4).length; omega) hg)
   (VG hNe hn hm h4 hN hPe h5 hQe h6 hx hq).down)))) _ (QB rfl)
end Go.Proofs.YtokjhbmmdmeafaaGreat
set_option linter.unusedSimpArgs false
set_option linter.unusedVariables false
namespace Go.Proofs.YtokjhbmmdmeafaaGreat
open Go.Ev Go.RowKit
open Tryz
def gEs (l : LU0) : Nat -> Int
 | 0 => 0
 | n + 1 => if gEs l n = 0 then gE (l.drop (172 * n)) else gEs l n
theorem HE (l : LU0) : ∀ n, gEs l n = 0 -> ∀ i, i < n -> gE (l.drop (172 * i)) = 0
 | 0, _, i, hi => by omega
 | n + 1, h, i, hi => by
  by_cases h0 : gEs l n = 0
  ·rw [show gEs l (n + 1) = gE (l.drop (172 * n)) from if_pos h0] at h
   rcases Nat.lt_or_ge i n with hh | hh
   ·exact HE l n h0 i hh
   ·rw [show i = n by omega]; exact h
  ·rw [show gEs l (n + 1) = gEs l n from if_neg h0] at h
   exact absurd h h0
instance (vs : Int) (g : GT) : Decidable (okW vs g) := by unfold okW bw; infer_instance
instance (gs : List GT) (pub vs : Int) : Decidable (tl gs pub vs) := by unfold tl; infer_instance
def Z6 (l : LU0) (N p q : Nat) : Prop := q <= 2147483647 /\ tl (gsv ((((l.drop 4).drop 4).drop 4).drop 4) (N)) ((p : Nat) : Int) ((q : Nat) : Int)
instance (l : LU0) (N p q : Nat) : Decidable (Z6 l N p q) := by unfold Z6; infer_instance
end Go.Proofs.YtokjhbmmdmeafaaGreat
