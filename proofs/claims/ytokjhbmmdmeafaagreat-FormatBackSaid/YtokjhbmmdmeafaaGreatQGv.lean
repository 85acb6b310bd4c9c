/- Pruned: Gv. -/
import Derived.Test.YtokjhbmmdmeafaaGreatQGu
import Derived.Test.YtokjhbmmdmeafaaGreatQGa
import Derived.Test.YtokjhbmmdmeafaaGreatQGg
import Derived.Test.YtokjhbmmdmeafaaGreatQGf
set_option linter.unusedSimpArgs false
set_option linter.unusedVariables false
namespace Go.Proofs.YtokjhbmmdmeafaaGreat
open Go.Ev Go.RowKit
open Tryz
abbrev Wu (v : Value) : Prop := true = true /\ true = true /\ [v] = [v]
abbrev ED (n : Nat) : Prop := true = true /\ n = n
theorem ui {x : Nat} (h : x < Pp) : (ofP x).val = x := Nat.mod_eq_of_lt h
theorem WM {a : A1} (h : p1E a = 0) : may1 a /\ rp a := by
 by_cases m : may1 a
 ·by_cases g : rp a
  ·exact ⟨m, g⟩
  ·rw [show p1E a = 31 from (if_pos m).trans (if_neg g)] at h; exact absurd h (by decide)
 ·rw [show p1E a = 30 from if_neg m] at h; exact absurd h (by decide)
theorem Xb {a : A2} (h : p2E a = 0) : may2 a /\ rm a := by
 by_cases m : may2 a
 ·by_cases g : rm a
  ·exact ⟨m, g⟩
  ·rw [show p2E a = 31 from (if_pos m).trans (if_neg g)] at h; exact absurd h (by decide)
 ·rw [show p2E a = 30 from if_neg m] at h; exact absurd h (by decide)
theorem Al : 0 < Pp := by decide
theorem Us {a : A1} (m : may1 a) : a.1 < Pp /\ a.2.1 < Pp := by
 obtain ⟨x, y, i⟩ := a
 cases i with
 | true =>
  have h : x = 0 /\ y = 0 := m
  rw [h.1, h.2]
  exact ⟨Al, Al⟩
 | false =>
  have h : is1 x /\ is1 y /\ _ := m
  exact ⟨h.1, h.2.1⟩
theorem Tk {a : A2} (m : may2 a) : (a.1.1 < Pp /\ a.1.2 < Pp) /\ a.2.1.1 < Pp /\ a.2.1.2 < Pp := by
 obtain ⟨⟨x, x'⟩, ⟨y, y'⟩, i⟩ := a
 cases i with
 | true =>
  have h : (x, x') = (0, 0) /\ (y, y') = (0, 0) := m
  simp only [pi0] at h
  obtain ⟨⟨rfl, rfl⟩, rfl, rfl⟩ := h
  exact ⟨⟨Al, Al⟩, Al, Al⟩
 | false =>
  have h : is2 (x, x') /\ is2 (y, y') /\ _ := m
  exact ⟨h.1, h.2.1⟩
theorem LF {a : A1} (h : p1E a = 0) : (p1S a).length = 48 /\ g1E (p1S a) = 0 /\ g1V (p1S a) = a := by
 obtain ⟨m, g⟩ := WM h
 obtain ⟨hx, hy⟩ := Us m
 obtain ⟨x, y, i⟩ := a
 have hx : x < Pp := hx
 have hy : y < Pp := hy
 have e : p1S (x, y, i) = putL1 (ofP x) (ofP y) i true := if_pos ⟨m, g⟩
 have m' : may1 ((ofP x).val, (ofP y).val, i) := by rw [ui hx, ui hy]; exact m
 have g' : rp ((ofP x).val, (ofP y).val, i) := by rw [ui hx, ui hy]; exact g
 obtain ⟨o, e1, e2, e3⟩ := abr (ofP x) (ofP y) i true m' g'
 rw [e]
 refine ⟨?_, ?_, ?_⟩
 ·show (yl (b1 (ofP x)) _).length = 48
  rw [wH, tx]
 ·rcases C2 (putL1 (ofP x) (ofP y) i true) with ⟨_, h2⟩ | ⟨h1, _⟩
  ·exact h2
  ·exact absurd o h1
 ·rw [show g1V (putL1 (ofP x) (ofP y) i true) = ((gx1 (putL1 (ofP x) (ofP y) i true)).val, (gy1 (putL1 (ofP x) (ofP y) i true)).val, decide (tX (putL1 (ofP x) (ofP y) i true))) from if_pos o, e1, e2, e3, ui hx, ui hy]
theorem Kv {a : A2} (h : p2E a = 0) : (p2S a).length = 96 /\ g2E (p2S a) = 0 /\ g2V (p2S a) = a := by
 obtain ⟨m, g⟩ := Xb h
 obtain ⟨⟨hx, hx'⟩, hy, hy'⟩ := Tk m
 obtain ⟨⟨x, x'⟩, ⟨y, y'⟩, i⟩ := a
 have ex : nn (of2 (x, x')) = (x, x') := by show ((ofP x).val, (ofP x').val) = _; rw [ui hx, ui hx']
 have ey : nn (of2 (y, y')) = (y, y') := by show ((ofP y).val, (ofP y').val) = _; rw [ui hy, ui hy']
 have e : p2S ((x, x'), (y, y'), i) = putL2 (of2 (x, x')) (of2 (y, y')) i true := if_pos ⟨m, g⟩
 have m' : may2 (nn (of2 (x, x')), nn (of2 (y, y')), i) := by rw [ex, ey]; exact m
 have g' : rm (nn (of2 (x, x')), nn (of2 (y, y')), i) := by rw [ex, ey]; exact g
 obtain ⟨o, e1, e2, e3⟩ := aal (of2 (x, x')) (of2 (y, y')) i true m' g'
 rw [e]
 refine ⟨?_, ?_, ?_⟩
 ·show (yl (b2 (of2 (x, x'))) _).length = 96
  rw [wH, yO]
 ·rcases H9 (putL2 (of2 (x, x')) (of2 (y, y')) i true) with ⟨_, h2⟩ | ⟨h1, _⟩
  ·exact h2
  ·exact absurd o h1
 ·rw [show g2V (putL2 (of2 (x, x')) (of2 (y, y')) i true) = (nn (gx2 (putL2 (of2 (x, x')) (of2 (y, y')) i true)), nn (gy2 (putL2 (of2 (x, x')) (of2 (y, y')) i true)), decide (ub (putL2 (of2 (x, x')) (of2 (y, y')) i true))) from if_pos o, e1, e2, e3, ex, ey]
theorem XM {n : Nat} (h : n < Rr) : (qL n).length = 32 /\ gfE (qL n) = 0 /\ gfV (qL n) = n := by
 have e : qL n = beL 32 n := by
  show beL 32 (n % Rr) = beL 32 n
  rw [Nat.mod_eq_of_lt h]
 have hd : deN 32 (qL n) = n := by rw [e]; exact VP 32 n (Nat.lt_trans h (by decide))
 have hl := rB n
 refine ⟨hl, (if_pos hl).trans (if_pos (by rw [hd]; exact h)), ?_⟩
 rw [show gfV (qL n) = deN 32 (qL n) from (if_pos hl).trans (if_pos (by rw [hd]; exact h))]
 exact hd
theorem Am {sz : Nat} {E : LU0 -> Int} : ∀ (n : Nat) (st : Int × LU0), nst sz E (n + 1) st = nst sz E n (rst sz E st)
 | 0, _ => rfl
 | n + 1, st => by
  show rst sz E (nst sz E (n + 1) st) = rst sz E (nst sz E n (rst sz E st))
  rw [Am n st]
theorem AM {α : Type} {sz : Nat} {E : LU0 -> Int} {V : LU0 -> α} {z : α} {put : α -> LU0} {ok : α -> Prop} (hp : ∀ a, ok a -> (put a).length = sz /\ E (put a) = 0 /\ V (put a) = a) : ∀ (xs : List α) (r : LU0), (∀ a, a ∈ xs -> ok a) -> nst sz E xs.length (0, xs.flatMap put ++ r) = (0, r) /\ ((List.range xs.length).map fun j => rvl sz V z (nst sz E j (0, xs.flatMap put ++ r))) = xs
 | [], r, _ => rr0
 | a :: xs, r, h => by
  obtain ⟨h1, h2, h3⟩ := hp a (h a (List.mem_cons_self ..))
  obtain ⟨i1, i2⟩ := AM (z := z) hp xs r (fun b hb => h b (List.mem_cons_of_mem _ hb))
  have e : (a :: xs).flatMap put ++ r = put a ++ (xs.flatMap put ++ r) := by rw [List.flatMap_cons, List.append_assoc]
  have et : (put a ++ (xs.flatMap put ++ r)).take sz = put a := by rw [← h1, List.take_left']; rfl
  have ed : (put a ++ (xs.flatMap put ++ r)).drop sz = xs.flatMap put ++ r := by rw [← h1, List.drop_left']; rfl
  have es : rst sz E (0, put a ++ (xs.flatMap put ++ r)) = (0, xs.flatMap put ++ r) := by
   rw [Ci, et, ed, h2]
  rw [e]
  refine ⟨?_, ?_⟩
  ·rw [List.length_cons, Am, es]; exact i1
  ·rw [List.length_cons, List.range_succ_eq_map, List.map_cons, List.map_map]
   refine congr (congrArg List.cons ?_) ?_
   ·show V ((put a ++ (xs.flatMap put ++ r)).take sz) = a
    rw [et, h3]
   ·refine Eq.trans (List.map_congr_left fun j _ => ?_) i2
    show rvl sz V z (nst sz E (j + 1) _) = _
    rw [Am, es]
theorem z8 (xs : List A1) (r : LU0) (h : ∀ a, a ∈ xs -> p1E a = 0) : nst 48 g1E xs.length (0, qW xs ++ r) = (0, r) /\ ((List.range xs.length).map fun j => rvl 48 g1V p1z (nst 48 g1E j (0, qW xs ++ r))) = xs :=
 AM (sz := 48) (E := g1E) (V := g1V) (z := p1z) (put := p1S) (ok := fun a => p1E a = 0) (fun a h => LF h) xs r h
theorem AX (xs : List Nat) (r : LU0) (h : ∀ a, a ∈ xs -> a < Rr) : nst 32 gfE xs.length (0, numB xs ++ r) = (0, r) /\ ((List.range xs.length).map fun j => rvl 32 gfV 0 (nst 32 gfE j (0, numB xs ++ r))) = xs :=
 AM (sz := 32) (E := gfE) (V := gfV) (z := 0) (put := qL) (ok := fun n => n < Rr) (fun a h => XM h) xs r h
theorem FY {ps : List A1} (h : ptE ps = 0) : ∀ a, a ∈ ps -> p1E a = 0 := by
 rcases AS ps with ⟨_, h2⟩ | ⟨j, a, h1, h2, h3, _⟩
 ·exact h2
 ·rw [h] at h3; exact absurd h3.symm h2
theorem zQ {ps : List A1} (h : ∀ a, a ∈ ps -> p1E a = 0) : (qW ps).length = 48 * ps.length := by
 induction ps with
 | nil => rfl
 | cons a l ih =>
  rw [show qW (a :: l) = p1S a ++ qW l from by simp [qW], List.length_append, (LF (h a (List.mem_cons_self ..))).1, ih fun b hb => h b (List.mem_cons_of_mem _ hb), List.length_cons]
  omega
theorem XP {p q : PF} (h : q.pts = p.pts) (k : q.nums = p.nums) : q = p := by
 obtain ⟨a0, a1, a2, a3, a4, a5, a6, a7, a8, f0, f1, f2, f3, f4, f5⟩ := p
 obtain ⟨b0, b1, b2, b3, b4, b5, b6, b7, b8, g0, g1, g2, g3, g4, g5⟩ := q
 have h : [b0, b1, b2, b3, b4, b5, b6, b7, b8] = [a0, a1, a2, a3, a4, a5, a6, a7, a8] := h
 have k : [g0, g1, g2, g3, g4, g5] = [f0, f1, f2, f3, f4, f5] := k
 injection h with e0 h; injection h with e1 h; injection h with e2 h; injection h with e3 h; injection h with e4 h; injection h with e5 h; injection h with e6 h; injection h with e7 h; injection h with e8 h
 injection k with d0 k; injection k with d1 k; injection k with d2 k; injection k with d3 k; injection k with d4 k; injection k with d5 k
 subst e0 e1 e2 e3 e4 e5 e6 e7 e8 d0 d1 d2 d3 d4 d5
 rfl
theorem WJ (p : PF) (h : vp p = 0) : Tj (pfS p) = 0 /\ gpR (pfS p) = p := by
 have hc : re p.nums := by
  by_cases c : re p.nums
  ·exact c
  ·rw [show vp p = 1 from if_neg c] at h; exact absurd h (by decide)
 have h0 : ptE p.pts = 0 := by rw [← h]; exact (if_pos hc).symm
 have hp := FY h0
 have e : pfS p = mgP ++ (qW p.pts ++ (numB p.nums ++ [])) := by
  rw [show pfS p = (mgP ++ qW p.pts) ++ numB p.nums from if_pos h, List.append_nil, List.append_assoc]
 obtain ⟨a1, a2⟩ := z8 p.pts (numB p.nums ++ []) hp
 obtain ⟨b1, b2⟩ := AX p.nums [] hc
 have hl : (pfS p).length = 628 := by
  rw [e, List.length_append, List.length_append, zQ hp, List.append_nil, vO]
  show 4 + (48 * 9 + 32 * 6) = 628
  decide
 have hm : (pfS p).take 4 = mgP := by rw [e]; rfl
 have hd : (pfS p).drop 4 = qW p.pts ++ (numB p.nums ++ []) := by rw [e]; rfl
 have a1 : nst 48 g1E 9 (0, qW p.pts ++ (numB p.nums ++ [])) = (0, numB p.nums ++ []) := a1
 have b1 : nst 32 gfE 6 (0, numB p.nums ++ []) = (0, []) := b1
 refine ⟨?_, ?_⟩
 ·rw [show Tj (pfS p) = (NN (0, (pfS p).drop 4)).1 from (if_pos hm).trans (if_pos hl), hd]
  show (nst 32 gfE 6 (nst 48 g1E 9 _)).1 = 0
  rw [a1, b1]
 ·have hR : gpR (pfS p) = DI (0, (pfS p).drop 4) := rfl
  rw [hR, hd]
  have hq : (DI (0, qW p.pts ++ (numB p.nums ++ []))).pts = p.pts := a2
  have hn : (DI (0, qW p.pts ++ (numB p.nums ++ []))).nums = p.nums := by
   have b2 : ((List.range 6).map fun j => rvl 32 gfV 0 (nst 32 gfE j (0, numB p.nums ++ []))) = p.nums := b2
   refine Eq.trans ?_ b2
   rw [← a1]
   rfl
  exact XP hq hn
end Go.Proofs.YtokjhbmmdmeafaaGreat
set_option linter.unusedSimpArgs false
set_option linter.unusedVariables false
namespace Go.Proofs.YtokjhbmmdmeafaaGreat
open Go.Ev Go.RowKit
open Tryz
theorem WB {p q : VT} (hl : q.l = p.l) (hp : q.p = p.p) (h : q.pts = p.pts) (hb : q.b = p.b) : q = p := by
 obtain ⟨a, b, a0, a1, a2, a3, a4, a5, a6, a7, a8⟩ := p
 obtain ⟨c, d, b0, b1, b2, b3, b4, b5, b6, b7, b8⟩ := q
 have h : [b0, b1, b2, b3, b4, b5, b6, b7] = [a0, a1, a2, a3, a4, a5, a6, a7] := h
 have hl : c = a := hl
 have hp : d = b := hp
 have hb : b8 = a8 := hb
 injection h with e0 h; injection h with e1 h; injection h with e2 h; injection h with e3 h; injection h with e4 h; injection h with e5 h; injection h with e6 h; injection h with e7 h
 subst e0 e1 e2 e3 e4 e5 e6 e7 hl hp hb
 rfl
theorem El {n : Int} (h0 : 0 <= n) (h1 : n <= 255) : (((UInt8.ofNat (IntKind.u8.wrap n).toNat).toNat : Nat) : Int) = n := by
 rw [z7, Int.emod_eq_of_lt h0 (by omega), UInt8.toNat_ofNat']
 omega
theorem Ox (a b : List A1) : qW (a ++ b) = qW a ++ qW b := by simp [qW]
theorem YB (v : VT) (h : rL v = 0) : UQ (ckS v) = 0 /\ gcR (ckS v) = v := by
 have hok : Gh v := by
  by_cases c : Gh v
  ·exact c
  ·rw [show rL v = 1 from if_neg c] at h; exact absurd h (by decide)
 have h0 : ptE v.pts = 0 := by
  by_cases c : ptE v.pts = 0
  ·exact c
  ·rw [show rL v = ptE v.pts from (if_pos hok).trans (if_neg c)] at h; exact absurd h c
 have hb : p2E v.b = 0 := by
  rw [show rL v = p2E v.b from (if_pos hok).trans (if_pos h0)] at h; exact h
 have hp := FY h0
 obtain ⟨ol, ol', op, op'⟩ := hok
 obtain ⟨b1, b2, b3⟩ := Kv hb
 generalize hB0 : UInt8.ofNat (IntKind.u8.wrap v.l).toNat = c0
 generalize hB1 : UInt8.ofNat (IntKind.u8.wrap v.p).toNat = c1
 have hO : spO v = [c0, c1] := by unfold spO; rw [hB0, hB1]
 have v0 : ((c0.toNat : Nat) : Int) = v.l := by rw [← hB0]; exact El ol ol'
 have v1 : ((c1.toNat : Nat) : Int) = v.p := by rw [← hB1]; exact El op op'
 have hpt : v.pts = [v.q0, v.q1, v.q2, v.q3, v.q4] ++ [v.s0, v.s1, v.s2] := rfl
 have e : ckS v = mgV ++ (c0 :: c1 :: (qW [v.q0, v.q1, v.q2, v.q3, v.q4] ++ (qW [v.s0, v.s1, v.s2] ++ p2S v.b))) := by
  rw [show ckS v = mgV ++ spS v from if_pos h, show spS v = spO v ++ qW v.pts ++ p2S v.b from if_pos h, hO, hpt, Ox]
  simp only [List.append_assoc, List.cons_append, List.nil_append]
 have hq : ∀ a, a ∈ [v.q0, v.q1, v.q2, v.q3, v.q4] -> p1E a = 0 := fun a ha => hp a (by rw [hpt]; exact List.mem_append_left _ ha)
 have hs : ∀ a, a ∈ [v.s0, v.s1, v.s2] -> p1E a = 0 := fun a ha => hp a (by rw [hpt]; exact List.mem_append_right _ ha)
 obtain ⟨q1, q2⟩ := z8 [v.q0, v.q1, v.q2, v.q3, v.q4] (qW [v.s0, v.s1, v.s2] ++ p2S v.b) hq
 obtain ⟨s1, s2⟩ := z8 [v.s0, v.s1, v.s2] (p2S v.b) hs
 have hl : (ckS v).length = 486 := by
  rw [e, List.length_append, List.length_cons, List.length_cons, List.length_append, List.length_append, zQ hq, zQ hs, b1]
  show 4 + (48 * 5 + (48 * 3 + 96) + 1 + 1) = 486
  decide
 have hm : (ckS v).take 4 = mgV := by rw [e]; rfl
 have hd : (ckS v).drop 4 = c0 :: c1 :: (qW [v.q0, v.q1, v.q2, v.q3, v.q4] ++ (qW [v.s0, v.s1, v.s2] ++ p2S v.b)) := by rw [e]; rfl
 generalize hX : qW [v.q0, v.q1, v.q2, v.q3, v.q4] ++ (qW [v.s0, v.s1, v.s2] ++ p2S v.b) = x at q1 q2 hd
 generalize hY : qW [v.s0, v.s1, v.s2] ++ p2S v.b = y at q1 s1 s2
 have q1 : nst 48 g1E 5 (0, x) = (0, y) := q1
 have s1 : nst 48 g1E 3 (0, y) = (0, p2S v.b) := s1
 have k8 : ve (0, x) = (0, p2S v.b) := by
  show nst 48 g1E 3 (nst 48 g1E 5 (0, x)) = _
  rw [q1, s1]
 have hx : (((ckS v).drop 4).drop 1).drop 1 = x := by rw [hd]; rfl
 refine ⟨?_, ?_⟩
 ·rw [show UQ (ckS v) = (rst 96 g2E (ve (0, (((ckS v).drop 4).drop 1).drop 1))).1 from (if_pos hm).trans (if_pos hl), hx, k8, Ci]
  show g2E ((p2S v.b).take 96) = 0
  rw [OE b1]; exact b2
 ·have hR : gcR (ckS v) = { Ty ((cn (((ckS v).drop 4).take 1) 0 : Nat) : Int) ((cn ((((ckS v).drop 4).drop 1).take 1) 0 : Nat) : Int) (0, ((((ckS v).drop 4).drop 1).drop 1)) with b := g2V ((ve (0, ((((ckS v).drop 4).drop 1).drop 1))).2.take 96) } := rfl
  rw [hR, hx, hd, k8]
  refine WB ?_ ?_ ?_ ?_
  ·exact v0
  ·exact v1
  ·have q2 : ((List.range 5).map fun j => rvl 48 g1V p1z (nst 48 g1E j (0, x))) = [v.q0, v.q1, v.q2, v.q3, v.q4] := q2
   have s2 : ((List.range 3).map fun j => rvl 48 g1V p1z (nst 48 g1E j (0, y))) = [v.s0, v.s1, v.s2] := s2
   rw [hpt, ← q2, ← s2, ← q1]
   rfl
  ·show g2V ((p2S v.b).take 96) = v.b
   rw [OE b1]; exact b3
theorem DR {n : Nat} (h : n < 4294967296) (r : LU0) : c4 (b4 .i64 (n : Int) ++ r) = n := by
 rw [WY]
 show c4 (UInt8.ofNat (n / 16777216 % 256) :: UInt8.ofNat (n / 65536 % 256) :: UInt8.ofNat (n / 256 % 256) :: UInt8.ofNat (n % 256) :: r) = n
 rw [KQ, UInt8.toNat_ofNat', UInt8.toNat_ofNat', UInt8.toNat_ofNat', UInt8.toNat_ofNat']
 omega
theorem Fw (k : IntKind) (n : Int) (r : LU0) : (b4 k n ++ r).take 4 = b4 k n := rfl
theorem YA (ns : List Nat) (hc : re ns) (hN : ns.length <= 64) (l : LU0) (hl : l = sH ns ns.length) : 4 <= l.length /\ l.take 4 = mgW /\ 4 <= (l.drop 4).length /\ c4 (l.drop 4) = ns.length /\ ((l.drop 4).drop 4).length = 32 * ns.length /\ nst 32 gfE ns.length (0, (l.drop 4).drop 4) = (0, []) /\ zr (0, (l.drop 4).drop 4) ns.length = ns := by
 have e : l = mgW ++ (b4 .i64 (ns.length : Nat) ++ (numB ns ++ [])) := by
  rw [hl]
  unfold sH
  rw [List.take_of_length_le (Nat.le_refl _), List.append_nil, List.append_assoc]
 obtain ⟨n1, n2⟩ := AX ns [] hc
 have hd : l.drop 4 = b4 .i64 (ns.length : Nat) ++ (numB ns ++ []) := by rw [e]; rfl
 have hd2 : (l.drop 4).drop 4 = numB ns ++ [] := by rw [hd]; rfl
 have hn : (numB ns ++ []).length = 32 * ns.length := by rw [List.append_nil, vO]
 have hd4 : (l.drop 4).length = 4 + 32 * ns.length := by rw [hd, List.length_append, hn]; rfl
 have hl4 : l.length = 4 + (4 + 32 * ns.length) := by rw [e, List.length_append, List.length_append, hn]; rfl
 refine ⟨by omega, by rw [e]; rfl, by omega, ?_, ?_, ?_, ?_⟩
 ·rw [hd]; exact DR (by omega) _
 ·rw [hd2]; exact hn
 ·rw [hd2]; exact n1
 ·rw [hd2]; exact n2
theorem YE (ps : List A1) (b : A2) (hN : ps.length <= 4096) (h1 : ptE ps = 0) (h2 : p2E b = 0) (l : LU0) (hl : l = qV ps ps.length ++ p2S b) : 4 <= l.length /\ l.take 4 = Sn /\ 4 <= (l.drop 4).length /\ c4 (l.drop 4) = ps.length /\ ((l.drop 4).drop 4).length = 48 * ps.length + 96 /\ nst 48 g1E ps.length (0, (l.drop 4).drop 4) = (0, p2S b) /\ zm (0, (l.drop 4).drop 4) ps.length = ps /\ (p2S b).take 96 = p2S b /\ g2E (p2S b) = 0 /\ g2V (p2S b) = b := by
 have hp := FY h1
 obtain ⟨b1, b2, b3⟩ := Kv h2
 have e : l = mgK ++ (b4 .i64 (ps.length : Nat) ++ (qW ps ++ p2S b)) := by
  rw [hl]
  unfold qV
  rw [List.take_of_length_le (Nat.le_refl _), List.append_assoc, List.append_assoc]
 obtain ⟨n1, n2⟩ := z8 ps (p2S b) hp
 have hd : l.drop 4 = b4 .i64 (ps.length : Nat) ++ (qW ps ++ p2S b) := by rw [e]; rfl
 have hd2 : (l.drop 4).drop 4 = qW ps ++ p2S b := by rw [hd]; rfl
 have hn : (qW ps ++ p2S b).length = 48 * ps.length + 96 := by rw [List.length_append, zQ hp, b1]
 have hd4 : (l.drop 4).length = 4 + (48 * ps.length + 96) := by rw [hd, List.length_append, hn]; rfl
 have hl4 : l.length = 4 + (4 + (48 * ps.length + 96)) := by rw [e, List.length_append, List.length_append, hn]; rfl
 refine ⟨by omega, by rw [e]; rfl, by omega, ?_, ?_, ?_, ?_, OE b1, b2, b3⟩
 ·rw [hd]; exact DR (by omega) _
 ·rw [hd2]; exact hn
 ·rw [hd2]; exact n1
 ·rw [hd2]; exact n2
theorem X6 {p q : GT} (h : gN q = gN p) (h0 : q.w0 = p.w0) (h1 : q.w1 = p.w1) (h2 : q.w2 = p.w2) : q = p := by
 obtain ⟨a0, a1, a2, a3, a4, w0, w1, w2⟩ := p
 obtain ⟨b0, b1, b2, b3, b4, v0, v1, v2⟩ := q
 have h : [b0, b1, b2, b3, b4] = [a0, a1, a2, a3, a4] := h
 have h0 : v0 = w0 := h0
 have h1 : v1 = w1 := h1
 have h2 : v2 = w2 := h2
 injection h with e0 h; injection h with e1 h; injection h with e2 h; injection h with e3 h; injection h with e4 h
 subst e0 e1 e2 e3 e4 h0 h1 h2
 rfl
theorem Aq {w : Int} (h0 : -1 <= w) (h1 : w < 2147483648) : wV (b4 .i64 w) = w := by
 by_cases e : w = -1
 ·rw [e, YN]
  exact if_pos (by rw [KQ]; decide)
 ·obtain ⟨n, rfl⟩ : ∃ n : Nat, w = (n : Int) := ⟨w.toNat, by omega⟩
  have hc : c4 (b4 .i64 (n : Int)) = n := by
   have := DR (n := n) (by omega) []
   rwa [List.append_nil] at this
  rw [show wV (b4 .i64 (n : Int)) = ((c4 (b4 .i64 (n : Int)) : Nat) : Int) from if_neg (by rw [hc]; omega), hc]
theorem Mk {g : GT} (hc : rZ g) (hw : ∀ w, w = g.w0 ∨ w = g.w1 ∨ w = g.w2 -> -1 <= w /\ w < 2147483648) (r : LU0) : gE (gB g ++ r) = 0 /\ gV (0, gB g ++ r) = g := by
 have hs : gS g = numB (gN g) := by
  show (((qL _ ++ qL _) ++ qL _) ++ qL _) ++ qL _ = _
  simp only [numB, gN, List.flatMap_cons, List.flatMap_nil, List.append_nil, List.append_assoc]
 have e : gB g ++ r = numB (gN g) ++ (b4 .i64 g.w0 ++ (b4 .i64 g.w1 ++ (b4 .i64 g.w2 ++ r))) := by
  unfold gB
  rw [hs]
  simp only [List.append_assoc]
 obtain ⟨n1, n2⟩ := AX (gN g) (b4 .i64 g.w0 ++ (b4 .i64 g.w1 ++ (b4 .i64 g.w2 ++ r))) hc
 rw [e]
 generalize numB (gN g) ++ (b4 .i64 g.w0 ++ (b4 .i64 g.w1 ++ (b4 .i64 g.w2 ++ r))) = c at n1 n2
 have n1 : nst 32 gfE 5 (0, c) = (0, b4 .i64 g.w0 ++ (b4 .i64 g.w1 ++ (b4 .i64 g.w2 ++ r))) := n1
 have n2 : ((List.range 5).map fun j => rvl 32 gfV 0 (nst 32 gfE j (0, c))) = gN g := n2
 refine ⟨by show (nst 32 gfE 5 (0, c)).1 = 0; rw [n1], X6 n2 ?_ ?_ ?_⟩
 ·refine ((PN _ (fun j => rvl 4 wV 0 (nst 4 noE j (nst 32 gfE 5 (0, c))))).1).trans ?_
  show rvl 4 wV 0 (nst 32 gfE 5 (0, c)) = g.w0
  rw [n1]
  refine (if_pos rfl).trans ?_
  rw [Fw]
  exact Aq (hw _ (.inl rfl)).1 (hw _ (.inl rfl)).2
 ·refine ((PN _ (fun j => rvl 4 wV 0 (nst 4 noE j (nst 32 gfE 5 (0, c))))).2.1).trans ?_
  show rvl 4 wV 0 (nst 4 noE 1 (nst 32 gfE 5 (0, c))) = g.w1
  rw [n1, B5 1 (fun i hi => rfl)]
  refine (if_pos rfl).trans ?_
  rw [show (b4 .i64 g.w0 ++ (b4 .i64 g.w1 ++ (b4 .i64 g.w2 ++ r))).drop (4 * 1) = b4 .i64 g.w1 ++ (b4 .i64 g.w2 ++ r) from rfl, Fw]
  exact Aq (hw _ (.inr (.inl rfl))).1 (hw _ (.inr (.inl rfl))).2
 ·refine ((PN _ (fun j => rvl 4 wV 0 (nst 4 noE j (nst 32 gfE 5 (0, c))))).2.2).trans ?_
  show rvl 4 wV 0 (nst 4 noE 2 (nst 32 gfE 5 (0, c))) = g.w2
  rw [n1, B5 2 (fun i hi => rfl)]
  refine (if_pos rfl).trans ?_
  rw [show (b4 .i64 g.w0 ++ (b4 .i64 g.w1 ++ (b4 .i64 g.w2 ++ r))).drop (4 * 2) = b4 .i64 g.w2 ++ r from rfl, Fw]
  exact Aq (hw _ (.inr (.inr rfl))).1 (hw _ (.inr (.inr rfl))).2
theorem I3 : ∀ gs : List GT, (∀ g, g ∈ gs -> rZ g /\ ∀ w, w = g.w0 ∨ w = g.w1 ∨ w = g.w2 -> -1 <= w /\ w < 2147483648) -> gsv (gs.flatMap gB) gs.length = gs /\ gEs (gs.flatMap gB) gs.length = 0
 | gs, h => by
  have key : ∀ (gs : List GT), (∀ g, g ∈ gs -> rZ g /\ ∀ w, w = g.w0 ∨ w = g.w1 ∨ w = g.w2 -> -1 <= w /\ w < 2147483648) -> ∀ j, j < gs.length -> gE ((gs.flatMap gB).drop (172 * j)) = 0 /\ gs[j]? = some (gV (0, (gs.flatMap gB).drop (172 * j))) := by
   intro gs
   induction gs with
   | nil => intro _ j hj; cases hj
   | cons g gs ih =>
    intro h j hj
    obtain ⟨c1, c2⟩ := h g (List.mem_cons_self ..)
    cases j with
    | zero =>
     obtain ⟨k1, k2⟩ := Mk c1 c2 (gs.flatMap gB)
     rw [Nat.mul_zero, List.drop_zero, List.flatMap_cons]
     exact ⟨k1, by rw [k2]; rfl⟩
    | succ j =>
     have ed : ((g :: gs).flatMap gB).drop (172 * (j + 1)) = (gs.flatMap gB).drop (172 * j) := by
      rw [List.flatMap_cons, Nat.mul_succ, Nat.add_comm, ← List.drop_drop, show (gB g ++ gs.flatMap gB).drop 172 = gs.flatMap gB from by rw [← yq g, List.drop_left']; rfl]
     rw [ed]
     exact ih (fun x hx => h x (List.mem_cons_of_mem _ hx)) j (by simpa using hj)
  have hk := key gs h
  refine ⟨?_, ?_⟩
  ·apply List.ext_getElem?
   intro j
   by_cases hj : j < gs.length
   ·rw [(hk j hj).2]
    unfold gsv
    rw [List.getElem?_map, List.getElem?_range hj]
    rfl
   ·rw [List.getElem?_eq_none (by simp [gsv]; omega), List.getElem?_eq_none (by omega)]
  ·have : ∀ n, n <= gs.length -> gEs (gs.flatMap gB) n = 0 := by
    intro n
    induction n with
    | zero => intro _; rfl
    | succ n ih =>
     intro hn
     rw [show gEs (gs.flatMap gB) (n + 1) = gE ((gs.flatMap gB).drop (172 * n)) from if_pos (ih (by omega))]
     exact (hk n (by omega)).1
   exact this _ (Nat.le_refl _)
theorem Yx (gs : List GT) (pub vars : Int) (hr : tl gs pub vars) (hv : ¬ vars > 2147483647) (hc : ∀ g, g ∈ gs -> rZ g) (l : LU0) (hl : l = qZ gs pub vars gs.length) : 4 <= l.length /\ l.take 4 = Px /\ 4 <= (l.drop 4).length /\ c4 (l.drop 4) = gs.length /\ c4 ((l.drop 4).drop 4) = pub.toNat /\ 4 <= ((l.drop 4).drop 4).length /\ c4 (((l.drop 4).drop 4).drop 4) = vars.toNat /\ 4 <= (((l.drop 4).drop 4).drop 4).length /\ ((((l.drop 4).drop 4).drop 4).drop 4).length = gs.length * 172 /\ gsv ((((l.drop 4).drop 4).drop 4).drop 4) gs.length = gs /\ gEs ((((l.drop 4).drop 4).drop 4).drop 4) gs.length = 0 := by
 obtain ⟨r1, r2, r3, r4, r5⟩ := hr
 have hw : ∀ g, g ∈ gs -> rZ g /\ ∀ w, w = g.w0 ∨ w = g.w1 ∨ w = g.w2 -> -1 <= w /\ w < 2147483648 := fun g hg => by
  refine ⟨hc g hg, fun w hw => ?_⟩
  obtain ⟨o0, o1, o2⟩ := r5 g hg
  unfold bw at o0 o1 o2
  rcases hw with rfl | rfl | rfl <;> omega
 obtain ⟨g1, g2⟩ := I3 gs hw
 have ep : ((pub.toNat : Nat) : Int) = pub := by omega
 have ev : ((vars.toNat : Nat) : Int) = vars := by omega
 have e : l = mgC ++ (b4 .i64 (gs.length : Nat) ++ (b4 .i64 (pub.toNat : Nat) ++ (b4 .i64 (vars.toNat : Nat) ++ gs.flatMap gB))) := by
  rw [hl, ep, ev]
  unfold qZ hdC
  rw [List.take_of_length_le (l := gs) (Nat.le_refl _)]
  simp only [List.append_assoc]
 have hF : (gs.flatMap gB).length = gs.length * 172 := by
  clear hw g1 g2 e r1 r3 r5 hc hl
  induction gs with
  | nil => rfl
  | cons g gs ih => rw [List.flatMap_cons, List.length_append, yq, ih, List.length_cons]; omega
 have d1 : l.drop 4 = b4 .i64 (gs.length : Nat) ++ (b4 .i64 (pub.toNat : Nat) ++ (b4 .i64 (vars.toNat : Nat) ++ gs.flatMap gB)) := by rw [e]; rfl
 have d2 : (l.drop 4).drop 4 = b4 .i64 (pub.toNat : Nat) ++ (b4 .i64 (vars.toNat : Nat) ++ gs.flatMap gB) := by rw [d1]; rfl
 have d3 : ((l.drop 4).drop 4).drop 4 = b4 .i64 (vars.toNat : Nat) ++ gs.flatMap gB := by rw [d2]; rfl
 have d4 : (((l.drop 4).drop 4).drop 4).drop 4 = gs.flatMap gB := by rw [d3]; rfl
 have n3 : (((l.drop 4).drop 4).drop 4).length = 4 + gs.length * 172 := by rw [d3, List.length_append, hF]; rfl
 have n2 : ((l.drop 4).drop 4).length = 4 + (4 + gs.length * 172) := by rw [d2, List.length_append, List.length_append, hF]; rfl
 have n1 : (l.drop 4).length = 4 + (4 + (4 + gs.length * 172)) := by rw [d1, List.length_append, List.length_append, List.length_append, hF]; rfl
 have n0 : l.length = 4 + (4 + (4 + (4 + gs.length * 172))) := by rw [e, List.length_append, List.length_append, List.length_append, List.length_append, hF]; rfl
 refine ⟨by omega, by rw [e]; rfl, by omega, ?_, ?_, by omega, ?_, by omega, ?_, ?_, ?_⟩
 ·rw [d1]; exact DR (by omega) _
 ·rw [d2]; exact DR (by omega) _
 ·rw [d3]; exact DR (by omega) _
 ·rw [d4]; exact hF
 ·rw [d4]; exact g1
 ·rw [d4]; exact g2
end Go.Proofs.YtokjhbmmdmeafaaGreat
set_option linter.unusedSimpArgs false
set_option linter.unusedVariables false
namespace Go.Ev
open Go.RowKit
def YH (P : Program) (T : TypeId) : Option (List K) :=
 match BC P 16 T with
 | some ks => match decide (ks.length = P.cellsOf T) && P.keyTypeAt 16 T && !P.eqGuardType P.depth T && (match P.underlying T with | some (.array _ _) | some (.struct _) => true | _ => false) with
  | true => some ks
  | false => none
 | none => none
theorem PD {P : Program} {T : TypeId} {ks : List K} (h : YH P T = some ks) {l m : List Value} (f1 : Fit l ks) (f2 : Fit m ks) (w : World) (X Y : Operand) (r : Bool) (hr : (r = true) ↔ l = m) :
  (do eqGuard .neq T X Y (.agg l.toArray) (.agg m.toArray); binOp .neq T (.agg l.toArray) (.agg m.toArray)).run P w = .ok (.bool (!r)) w := by
 unfold YH at h
 split at h
 ·rename_i ks' hk
  split at h
  ·rename_i hb
   simp only [oi0] at h
   subst h
   simp only [Bool.and_eq_true, decide_eq_true_eq, Bool.not_eq_true'] at hb
   obtain ⟨⟨⟨h0, h3⟩, h4⟩, h5⟩ := hb
   have formed : ∀ l : List Value, Fit l ks' -> Value.formed P T (.agg l.toArray) = true := by
    intro l hl
    have hc : l.length = P.cellsOf T := by rw [hl.length, h0]
    split at h5
    ·rename_i hu; simp [Value.formed, hu, hc]
    ·rename_i hu; simp [Value.formed, hu, hc]
    ·cases h5
   obtain ⟨r', e1, e2⟩ := run_equalIn_deep (P := P) 9984 16 T h3 w 16 16 (.agg l.toArray) (.agg m.toArray) (l.map litV) (m.map litV) (formed _ f1) (formed _ f2)
    (by simpa [Value.cells] using uB 16 T ks' hk _ f1) (by simpa [Value.cells] using uB 16 T ks' hk _ f2)
   have hrr : r' = r := by
    rw [Bool.eq_iff_iff, e2, hr]
    exact ⟨fun e => CM f1 f2 e, fun e => by rw [e]⟩
   subst hrr
   have e1' : (Op.equal T (.agg l.toArray) (.agg m.toArray)).run P w = .ok r' w := e1
   have g : ∀ op, (eqGuard op T X Y (.agg l.toArray) (.agg m.toArray)).run P w = .ok () w := by
    intro op
    cases op <;> first | rfl | simp [eqGuard, h4]
   simp only [Sem.run_bind, g, Result.andThen_ok]
   simp [binOp, e1']
  ·cases h
 ·cases h
def ad2 (P : Program) : QRule P where
 fn ora h avs op := match op, avs with
  | .binOp .neq T _ _ _, [.ag a, .ag b] => (match YH P T, pureC a, pureC b with
   | some ks, true, true => [(some (Fit (flat a) ks /\ flat a = flat b), .v (.bool false))]
   | _, _, _ => [])
  | _, _ => []
 nd ora h avs op k p hk c e := by subst e; simp at hk
 ok ora h avs op k c r hk hc := by
  intro B ρ w a o ho hr hh
  split at hk
  ·rename_i T x y yt cs ds
   split at hk
   ·rename_i ks hT hp hp'
    have e := rV hk
    simp only [pi0] at e
    obtain ⟨rfl, rfl⟩ := e
    simp only [Option.getD_some] at hc
    obtain ⟨hf, hs⟩ := hc
    simp only [Op.operands, List.map_cons, List.map_nil, Reps, Rep] at hr
    obtain ⟨u, r1, e1, ⟨hd, rfl⟩, v, r2, e2, ⟨hd', rfl⟩, e3⟩ := hr
    subst e2
    subst e3
    simp only [List.cons.injEq, and_true] at e1
    have e1 : a.eval x = .agg (flatR ρ cs).toArray /\ a.eval y = .agg (flatR ρ ds).toArray := by simpa using e1
    have hrun := PD (P := P) hT hf (hs ▸ hf) w x y true ⟨fun _ => hs, fun _ => rfl⟩
    refine ⟨.bool false, ?_, rfl⟩
    simp only [execOp, ho, e1.1, e1.2, (qe ρ hp).1, (qe ρ hp').1]
    rw [Sem.run_bind, hrun]
    rfl
   ·cases k <;> cases hk
  ·cases k <;> cases hk
def uK (P : Program) : Rules P := { q := (qa P).q ++ [ad2 P], x := (qa P).x, d := (qa P).d }
end Go.Ev
set_option linter.unusedSimpArgs false
set_option linter.unusedVariables false
namespace Go.Proofs.YtokjhbmmdmeafaaGreat
open Go.Ev Go.RowKit
open Tryz
theorem Gives.rx2 {P : Program} {f : FuncId} {cs : List Ch} {len : Nat} {y : XV} {r : AV} (h : Gives P f [.rz cs len, y] r) : Gives P f [.rx cs len, y] r := by
 obtain ⟨v, hv, hr⟩ := h
 refine ⟨v, hv, fun w vs hx => hr w vs ?_⟩
 match vs, hx with
 | [], hx => exact hx.elim
 | a :: vs, hx =>
  obtain ⟨⟨hp, b, off, room, rfl, hlt, hra⟩, h2⟩ := hx
  exact ⟨⟨hp, by omega, .inr ⟨b, off, room, rfl, hlt, hra⟩⟩, h2⟩
theorem Gives.ags2 {P : Program} {f : FuncId} {cs : List Ch} {len : Nat} {l : List XPc} {y : XV} {r : AV} (h : Gives P f [.ags (.z cs len :: l), y] r) : Gives P f [.ags (.r cs len :: l), y] r := by
 obtain ⟨v, hv, hr⟩ := h
 refine ⟨v, hv, fun w vs hx => hr w vs ?_⟩
 match vs, hx with
 | [], hx => exact hx.elim
 | a :: vs, hx =>
  obtain ⟨⟨cells, rfl, hp, b, off, room, r', rfl, hlt, hra, hl⟩, h2⟩ := hx
  exact ⟨⟨_, rfl, _, r', rfl, ⟨hp, by omega, .inr ⟨b, off, room, rfl, hlt, hra⟩⟩, hl⟩, h2⟩
theorem Df {z : Int} (h0 : -9223372036854775808 <= z) (h1 : z <= 9223372036854775807) : (Lit.int .i64 z).wf = true := by
 simp only [Lit.wf, IntKind.min, IntKind.max, IntKind.signed, IntKind.bits]
 simp
 omega
def gKs : List K := repK 4 [K.i .u64] ++ (repK 4 [K.i .u64] ++ (repK 4 [K.i .u64] ++ (repK 4 [K.i .u64] ++ (repK 4 [K.i .u64] ++ [K.i .i64, K.i .i64, K.i .i64]))))
def smW (g : GT) : Prop := ∀ w, w = g.w0 ∨ w = g.w1 ∨ w = g.w2 -> -9223372036854775808 <= w /\ w <= 9223372036854775807
theorem U0 {g : GT} (h : smW g) : Fit (flat (gP g)) gKs :=
 (q8 4 g.q0).append ((q8 4 g.q1).append ((q8 4 g.q2).append ((q8 4 g.q3).append ((q8 4 g.q4).append
  (show Fit [.int .i64 g.w0, .int .i64 g.w1, .int .i64 g.w2] [K.i .i64, K.i .i64, K.i .i64] from ⟨⟨rfl, Df (h _ (.inl rfl)).1 (h _ (.inl rfl)).2⟩, ⟨rfl, Df (h _ (.inr (.inl rfl))).1 (h _ (.inr (.inl rfl))).2⟩, ⟨rfl, Df (h _ (.inr (.inr rfl))).1 (h _ (.inr (.inr rfl))).2⟩, tt0⟩)))))
theorem wZ {a : Int} : (a != a) = false := by simp
def lkI (ns : List Nat) (z : Int) : LState := { n := 26, sl := [(0, .sz 0 ns.length), (1, .sz 1 ns.length), (12, vi0 ((ns.length : Nat) : Int)), (13, vi0 z)], hp := [(0, .rz [.l (numC 4 ns)]), (1, .rz [.l (numC 4 ns)])] }
def lkE : LState := { n := 26, sl := [], hp := [] }
theorem QS (ns : List Nat) (i : Nat) (x : Nat) (hx : ns[i]? = some x) (hm : ns.length <= 1000000) : Sound prog 0 false (qc f17 0) (lkI ns (i : Int)).aa .normal (lkI ns ((i + 1 : Nat) : Int)).aa := by
 have hi := zD hx
 have hs := p9 (P := prog) (X := qa _) (env := []) trivial (n := 0) (os := oL [(11, wT), (16, rO 14 i), (17, { ch := 0, hi := fun _ => 0, ru := 8, cs := fun _ => [.n 4 x] }), (20, rO 14 i), (21, { ch := 0, hi := fun _ => 0, ru := 8, cs := fun _ => [.n 4 x] })]) (fb := 0) (rd := false) (c := (qc f17 0)) (k := 11) (I := lkI ns (i : Int)) (sk := [0, 1, 12, 13]) (hk := [0, 1]) (lk := []) (ex := .normal)
  (L := lkI ns (IntKind.i64.wrap ((i : Int) + 1))) (by kernel_rfl) (ai (show flat ([.n 4 x]) = flat ([.n 4 x]) from rfl) (ai (ze ns i x hx) (ai (show (i : Int) = ((i : Nat) : Int) /\ i < ns.length from ⟨rfl, hi⟩) (ai (ze ns i x hx) (ai (show (i : Int) = ((i : Nat) : Int) /\ i < ns.length from ⟨rfl, hi⟩) (ai (show decide ((i : Int) < ((ns.length : Nat) : Int)) = true from decide_eq_true (by omega)) tt0))))))
 rw [show IntKind.i64.wrap ((i : Int) + 1) = ((i + 1 : Nat) : Int) by rw [qj]; omega] at hs
 exact hs
theorem Sr {c : Code} {I L : LState} {ex : Ex} {b : Prop} (o : LO0) (k : Nat) (sk hk : List Nat) (hb : b) (h : uG prog (qa _) [] 0 (oL o) 0 false c k I sk hk [] = some (ex, L, b) := by kernel_rfl) : Sound prog 0 false c I.aa ex L.aa := p9 (P := prog) (X := qa _) (env := []) trivial h hb
theorem YC (ns : List Nat) : Sound prog 0 false (qc f17 0) (lkI ns ((ns.length : Nat) : Int)).aa (.exit 0) lkE.aa :=
 Sr [(11, wF)] 11 [] [] (ai (show decide (((ns.length : Nat) : Int) < ((ns.length : Nat) : Int)) = false from decide_eq_false (by omega)) tt0)
theorem Wy (ns : List Nat) (hm : ns.length <= 1000000) : Sound prog 0 false (.loop (qc f17 0)) (lkI ns 0).aa (.exit 0) lkE.aa := by
 refine qw (m := fun y : { i : Nat // i <= ns.length } => ns.length - y.val) (fun y => lkI ns (y.val : Int)) (by simp) (fun y => ?_) ⟨0, by omega⟩
 obtain ⟨i, hi⟩ := y
 by_cases e : i < ns.length
 ·obtain ⟨x, hx⟩ := C3 e
  exact .inl ⟨⟨i + 1, e⟩, by show ns.length - (i + 1) < ns.length - i; omega, QS ns i x hx hm⟩
 ·have e : i = ns.length := by omega
  subst e
  exact .inr (YC ns)
theorem abd (ns : List Nat) (hm : ns.length <= 1000000) : Gives prog 17 [.rz [.l (numC 4 ns)] ns.length, .rz [.l (numC 4 ns)] ns.length] (.v (.bool true)) :=
 p6 (P := prog) (X := qa _) (env := []) trivial func17 0 (oL [(7, wF), (11, lpO { I := lkI ns 0, ex := .exit 0, E := lkE, fr := 12 })]) (by kernel_rfl) ⟨_, rfl⟩ (ai (show some (lkI ns 0) = some (lkI ns 0) from rfl) (ai (Wy ns hm) (ai (wZ (a := ((ns.length : Nat) : Int))) tt0)))
theorem W1  : Gives prog 17 [.t (.v (.slice none 0 0)), .rz [.l (numC 4 [])] 0] (.v (.bool true)) :=
 p6 (P := prog) (X := qa _) (env := []) trivial func17 0 (oL []) (by kernel_rfl) ⟨_, rfl⟩ trivial
def lgI (gs : List GT) (pub vars : Int) (z : Int) : LState := { n := 45, sl := [(2, .p 8 0), (3, .p 9 0), (29, vi0 ((gs.length : Nat) : Int)), (30, vi0 z)], hp := [(0, .rz [.l (gsC gs)]), (4, .rz [.l (gsC gs)]), (8, .own [.sz 0 gs.length, ci0 pub, ci0 vars] 49), (9, .own [.sz 4 gs.length, ci0 pub, ci0 vars] 49)] }
def lgE : LState := { n := 45, sl := [], hp := [] }
theorem On (gs : List GT) (pub vars : Int) (hw : ∀ g, g ∈ gs -> smW g) (i : Nat) (x : GT) (hx : gs[i]? = some x) (hm : gs.length <= 1000000) : Sound prog 0 false (qc f19 0) (lgI gs pub vars (i : Int)).aa .normal (lgI gs pub vars ((i + 1 : Nat) : Int)).aa := by
 have hi := glt hx
 have hs := p9 (P := prog) (X := uK _) (env := []) trivial (n := 0) (os := oL [(36, wT), (42, rO 14 i), (43, { ch := 0, hi := fun _ => 0, ru := 8, cs := fun _ => gP x }), (47, rO 14 i), (48, { ch := 0, hi := fun _ => 0, ru := 8, cs := fun _ => gP x }), (49, rO 15 0)]) (fb := 0) (rd := false) (c := (qc f19 0)) (k := 36) (I := lgI gs pub vars (i : Int)) (sk := [2, 3, 29, 30]) (hk := [0, 4, 8, 9]) (lk := []) (ex := .normal)
  (L := lgI gs pub vars (IntKind.i64.wrap ((i : Int) + 1))) (by kernel_rfl) (ai (show Fit (flat (gP x)) gKs /\ flat (gP x) = flat (gP x) from ⟨U0 (hw x (Mw hx)), rfl⟩) (ai (tN gs i x hx) (ai (show (i : Int) = ((i : Nat) : Int) /\ i < gs.length from ⟨rfl, hi⟩) (ai (tN gs i x hx) (ai (show (i : Int) = ((i : Nat) : Int) /\ i < gs.length from ⟨rfl, hi⟩) (ai (show decide ((i : Int) < ((gs.length : Nat) : Int)) = true from decide_eq_true (by omega)) tt0))))))
 rw [show IntKind.i64.wrap ((i : Int) + 1) = ((i + 1 : Nat) : Int) by rw [qj]; omega] at hs
 exact hs
theorem Xd (gs : List GT) (pub vars : Int) : Sound prog 0 false (qc f19 0) (lgI gs pub vars ((gs.length : Nat) : Int)).aa (.exit 0) lgE.aa :=
 Sr [(36, wF)] 36 [] [] (ai (show decide (((gs.length : Nat) : Int) < ((gs.length : Nat) : Int)) = false from decide_eq_false (by omega)) tt0)
theorem Yj (gs : List GT) (pub vars : Int) (hw : ∀ g, g ∈ gs -> smW g) (hm : gs.length <= 1000000) : Sound prog 0 false (.loop (qc f19 0)) (lgI gs pub vars 0).aa (.exit 0) lgE.aa := by
 refine qw (m := fun y : { i : Nat // i <= gs.length } => gs.length - y.val) (fun y => lgI gs pub vars (y.val : Int)) (by simp) (fun y => ?_) ⟨0, by omega⟩
 obtain ⟨i, hi⟩ := y
 by_cases e : i < gs.length
 ·obtain ⟨x, hx⟩ := gof e
  exact .inl ⟨⟨i + 1, e⟩, by show gs.length - (i + 1) < gs.length - i; omega, On gs pub vars hw i x hx hm⟩
 ·have e : i = gs.length := by omega
  subst e
  exact .inr (Xd gs pub vars)
theorem aaP (gs : List GT) (pub vars : Int) (hw : ∀ g, g ∈ gs -> smW g) (hm : gs.length <= 1000000) : Gives prog 19 [.ags [.z [.l (gsC gs)] gs.length, .c (ci0 pub), .c (ci0 vars)], .ags [.z [.l (gsC gs)] gs.length, .c (ci0 pub), .c (ci0 vars)]] (.v (.bool true)) :=
 p6 (P := prog) (X := qa _) (env := []) trivial func19 0 (oL [(15, wF), (21, wF), (30, wF), (36, lpO { I := lgI gs pub vars 0, ex := .exit 0, E := lgE, fr := 37 })]) (by kernel_rfl) ⟨_, rfl⟩ (ai (show some (lgI gs pub vars 0) = some (lgI gs pub vars 0) from rfl) (ai (Yj gs pub vars hw hm) (ai (wZ (a := ((gs.length : Nat) : Int))) (ai (wZ (a := vars)) (ai (wZ (a := pub)) tt0)))))
theorem Yq (pub vars : Int) : Gives prog 19 [.t (.ag [.c (.slice none 0 0), ci0 pub, ci0 vars]), .ags [.z [.l (gsC [])] 0, .c (ci0 pub), .c (ci0 vars)]] (.v (.bool true)) :=
 p6 (P := prog) (X := qa _) (env := []) trivial func19 0 (oL [(12, wF), (18, wF)]) (by kernel_rfl) ⟨_, rfl⟩ (ai (wZ (a := vars)) (ai (wZ (a := pub)) tt0))
end Go.Proofs.YtokjhbmmdmeafaaGreat
set_option linter.unusedSimpArgs false
set_option linter.unusedVariables false
namespace Go.Ev
def xl : Code -> List Code
 | .seq a b => xl a ++ xl b
 | .cond c a b => .cond c a b :: (xl a ++ xl b)
 | .block _ b => xl b
 | .loop b => xl b
 | .scope b => xl b
 | _ => []
def vJ (fn : Func) (k : Nat) : Code := match fn.body with | some c => (xl c).getD k .skip | none => .skip
end Go.Ev
namespace Go.Proofs.YtokjhbmmdmeafaaGreat
open Go.Ev Go.RowKit
open Tryz
def ov (a : AV) : Ora := { ch := 0, hi := fun _ => 0, ex := 7, av := fun _ => a }
def wOK (ns : List Nat) : Prop := ns.length <= 64 /\ re ns
instance (ns : List Nat) : Decidable (wOK ns) := inferInstanceAs (Decidable (_ /\ _))
def wS (ns : List Nat) : LU0 := if wOK ns then sH ns ns.length else []
def wE (ns : List Nat) : Int := if wOK ns then 0 else 1
theorem CU (ns : List Nat) (hb : sm4 ns) : Gives prog 16 [.rz [.l (numC 4 ns)] ns.length] (.tp [.v (.string (ofL (wS ns))), vi0 (wE ns)]) := by
 by_cases h : wOK ns
 ·rw [show wS ns = _ from if_pos h, show wE ns = 0 from if_pos h]; exact Yn ns h.1 hb h.2
 ·rw [show wS ns = [] from if_neg h, show wE ns = 1 from if_neg h]
  by_cases h1 : ns.length <= 64
  ·exact YO ns h1 hb (fun hc => h ⟨h1, hc⟩)
  ·exact Q6 ns (by omega)
def cOK (gs : List GT) (pub vs : Int) : Prop := tl gs pub vs /\ ¬ vs > 2147483647 /\ ∀ g, g ∈ gs -> rZ g
instance (gs : List GT) (pub vs : Int) : Decidable (cOK gs pub vs) := inferInstanceAs (Decidable (tl gs pub vs /\ ¬ vs > 2147483647 /\ ∀ g, g ∈ gs -> rZ g))
def cS (gs : List GT) (pub vs : Int) : LU0 := if cOK gs pub vs then qZ gs pub vs gs.length else []
def cE (gs : List GT) (pub vs : Int) : Int := if cOK gs pub vs then 0 else 1
def CC (p : PF) (v : VT) (ns : List Nat) (gs : List GT) (pub vs : Int) (ps : List A1) (b : A2) (t : Bool) : LState := { n := 181, sl := [(2, .sz 23 ns.length), (5, .p 14 0), (6, .p 15 0), (8, .p 16 0), (9, .p 17 0), (11, .v (.string (ofL (pfS p)))), (59, .v (.bool t))], hp := [(14, .own p.ch 30), (15, .own v.ch 41), (16, .own [.sz 40 gs.length, ci0 pub, ci0 vs] 49), (17, .own (.sz 30 ps.length :: pt2 b) 54), (23, .rz [.l (numC 4 ns)]), (30, .rz [.l (qt ps)]), (40, .rz [.l (gsC gs)])] }
def Ru (v : VT) (ns : List Nat) (gs : List GT) (pub vs : Int) (ps : List A1) (b : A2) : LState := { n := 181, sl := [(2, .sz 23 ns.length), (6, .p 15 0), (8, .p 16 0), (9, .p 17 0)], hp := [(15, .own v.ch 41), (16, .own [.sz 40 gs.length, ci0 pub, ci0 vs] 49), (17, .own (.sz 30 ps.length :: pt2 b) 54), (23, .rz [.l (numC 4 ns)]), (30, .rz [.l (qt ps)]), (40, .rz [.l (gsC gs)])] }
theorem v8 {c : Code} {I L : LState} {ex : Ex} {b : Prop} (o : LO0) (k : Nat) (sk hk : List Nat) (hb : b) (h : uG prog (uK _) [] 1 (oL o) 0 false c k I sk hk [] = some (ex, L, b) := by kernel_rfl) : Sound prog 0 false c I.aa ex L.aa := p9 (P := prog) (X := uK _) (env := []) trivial h hb
theorem WR (p : PF) (v : VT) (ns : List Nat) (gs : List GT) (pub vs : Int) (ps : List A1) (b : A2) : Sound prog 0 false (vJ f4 0) (CC p v ns gs pub vs ps b false).aa .normal (Ru v ns gs pub vs ps b).aa :=
 v8 [] 52 [2, 6, 8, 9] [15, 16, 17, 23, 30, 40] trivial
theorem US (p : PF) (v : VT) (ns : List Nat) (gs : List GT) (pub vs : Int) (ps : List A1) (b : A2) (g : qN prog 6 [.t (.v (.string (ofL (pfS p))))] (.tp [.ag p.ch, vi0 0])) : Sound prog 0 false (vJ f4 0) (CC p v ns gs pub vs ps b true).aa .normal (Ru v ns gs pub vs ps b).aa :=
 v8 [(53, ov (.tp [.ag p.ch, vi0 0]))] 52 [2, 6, 8, 9] [15, 16, 17, 23, 30, 40] (ai (show flat p.ch = flat p.ch from rfl) (ai (g) tt0))
def CW (v : VT) (ns : List Nat) (gs : List GT) (pub vs : Int) (ps : List A1) (b : A2) (t : Bool) : LState := { n := 181, sl := [(2, .sz 23 ns.length), (6, .p 15 0), (8, .p 16 0), (9, .p 17 0), (15, .v (.string (ofL (ckS v)))), (78, .v (.bool t))], hp := [(15, .own v.ch 41), (16, .own [.sz 40 gs.length, ci0 pub, ci0 vs] 49), (17, .own (.sz 30 ps.length :: pt2 b) 54), (23, .rz [.l (numC 4 ns)]), (30, .rz [.l (qt ps)]), (40, .rz [.l (gsC gs)])] }
def Oq (ns : List Nat) (gs : List GT) (pub vs : Int) (ps : List A1) (b : A2) : LState := { n := 181, sl := [(2, .sz 23 ns.length), (8, .p 16 0), (9, .p 17 0)], hp := [(16, .own [.sz 40 gs.length, ci0 pub, ci0 vs] 49), (17, .own (.sz 30 ps.length :: pt2 b) 54), (23, .rz [.l (numC 4 ns)]), (30, .rz [.l (qt ps)]), (40, .rz [.l (gsC gs)])] }
theorem Xv (v : VT) (ns : List Nat) (gs : List GT) (pub vs : Int) (ps : List A1) (b : A2) : Sound prog 0 false (vJ f4 2) (CW v ns gs pub vs ps b false).aa .normal (Oq ns gs pub vs ps b).aa :=
 v8 [] 62 [2, 8, 9] [16, 17, 23, 30, 40] trivial
def pKs : List K := repK 6 [K.i .u64] ++ (repK 6 [K.i .u64] ++ [K.b])
def vKs : List K := [K.i .i64, K.i .i64] ++ (pKs ++ (pKs ++ (pKs ++ (pKs ++ (pKs ++ (pKs ++ (pKs ++ (pKs ++ (repK 6 [K.i .u64] ++ (repK 6 [K.i .u64] ++ (repK 6 [K.i .u64] ++ (repK 6 [K.i .u64] ++ [K.b]))))))))))))
theorem SW (v : VT) (ns : List Nat) (gs : List GT) (pub vs : Int) (ps : List A1) (b : A2) (hf : Fit (flat v.ch) vKs) (g : qN prog 7 [.t (.v (.string (ofL (ckS v))))] (.tp [.ag v.ch, vi0 0])) : Sound prog 0 false (vJ f4 2) (CW v ns gs pub vs ps b true).aa .normal (Oq ns gs pub vs ps b).aa :=
 v8 [(63, ov (.tp [.ag v.ch, vi0 0])), (75, rO 15 0)] 62 [2, 8, 9] [16, 17, 23, 30, 40] (ai (show Fit (flat v.ch) vKs /\ flat v.ch = flat v.ch from ⟨hf, rfl⟩) (ai (g) tt0))
def BP (ns : List Nat) (gs : List GT) (pub vs : Int) (ps : List A1) (b : A2) (t : Bool) : LState := { n := 181, sl := [(2, .sz 23 ns.length), (8, .p 16 0), (9, .p 17 0), (19, .v (.string (ofL (wS ns)))), (97, .v (.bool t))], hp := [(16, .own [.sz 40 gs.length, ci0 pub, ci0 vs] 49), (17, .own (.sz 30 ps.length :: pt2 b) 54), (23, .rz [.l (numC 4 ns)]), (30, .rz [.l (qt ps)]), (40, .rz [.l (gsC gs)])] }
def M8 (gs : List GT) (pub vs : Int) (ps : List A1) (b : A2) : LState := { n := 181, sl := [(8, .p 16 0), (9, .p 17 0)], hp := [(16, .own [.sz 40 gs.length, ci0 pub, ci0 vs] 49), (17, .own (.sz 30 ps.length :: pt2 b) 54), (30, .rz [.l (qt ps)]), (40, .rz [.l (gsC gs)])] }
theorem W8 (ns : List Nat) (gs : List GT) (pub vs : Int) (ps : List A1) (b : A2) : Sound prog 0 false (vJ f4 4) (BP ns gs pub vs ps b false).aa .normal (M8 gs pub vs ps b).aa :=
 v8 [] 72 [8, 9] [16, 17, 30, 40] trivial
theorem UT (ns : List Nat) (gs : List GT) (pub vs : Int) (ps : List A1) (b : A2) (N : Nat) (g : xU prog 8 [.t (.v (.string (ofL (wS ns))))] (fun k => .tp [.sx k N, vi0 0]) (.gr [.l (numC 4 ns)] 28 4)) (h : qN prog 17 [.rx [.l (numC 4 ns)] N, .rz [.l (numC 4 ns)] ns.length] (.v (.bool true))) : Sound prog 0 false (vJ f4 4) (BP ns gs pub vs ps b true).aa .normal (M8 gs pub vs ps b).aa :=
 v8 [(73, { ch := 0, hi := fun _ => 0, ex := 4, av := fun k => .tp [.sx k N, vi0 0], lp := some { kd := 9, I := { n := 0, sl := [] }, ex := .normal, E := { n := 0, sl := [], hp := [(0, .gr [.l (numC 4 ns)] 28 4)] }, fr := 0 } }), (84, ov (.v (.bool true)))] 72 [8, 9] [16, 17, 30, 40] (ai (h) (ai (g) tt0))
theorem UU (gs : List GT) (pub vs : Int) (ps : List A1) (b : A2) (g : qN prog 8 [.t (.v (.string (ofL (wS [])))) ] (.tp [.v (.slice none 0 0), vi0 0])) (h : qN prog 17 [.t (.v (.slice none 0 0)), .rz [.l (numC 4 [])] 0] (.v (.bool true))) : Sound prog 0 false (vJ f4 4) (BP [] gs pub vs ps b true).aa .normal (M8 gs pub vs ps b).aa :=
 v8 [(73, ov (.tp [.v (.slice none 0 0), vi0 0])), (84, ov (.v (.bool true)))] 72 [8, 9] [16, 17, 30, 40] (ai (h) (ai (g) tt0))
def BS (gs : List GT) (pub vs : Int) (ps : List A1) (b : A2) (t : Bool) : LState := { n := 181, sl := [(8, .p 16 0), (9, .p 17 0), (23, .v (.string (ofL (cS gs pub vs)))), (117, .v (.bool t))], hp := [(16, .own [.sz 40 gs.length, ci0 pub, ci0 vs] 49), (17, .own (.sz 30 ps.length :: pt2 b) 54), (30, .rz [.l (qt ps)]), (40, .rz [.l (gsC gs)])] }
def MD (ps : List A1) (b : A2) : LState := { n := 181, sl := [(9, .p 17 0)], hp := [(17, .own (.sz 30 ps.length :: pt2 b) 54), (30, .rz [.l (qt ps)])] }
theorem XO (gs : List GT) (pub vs : Int) (ps : List A1) (b : A2) : Sound prog 0 false (vJ f4 6) (BS gs pub vs ps b false).aa .normal (MD ps b).aa :=
 v8 [] 82 [9] [17, 30] trivial
theorem To (gs : List GT) (pub vs : Int) (ps : List A1) (b : A2) (N : Nat) (g : xU prog 9 [.t (.v (.string (ofL (cS gs pub vs))))] (fun k => .tp [.ag (.sx k N :: [ci0 pub, ci0 vs]), vi0 0]) (.gr [.l (gsC gs)] 94 23)) (h : qN prog 19 [.ags [.r [.l (gsC gs)] N, .c (ci0 pub), .c (ci0 vs)], .ags [.z [.l (gsC gs)] gs.length, .c (ci0 pub), .c (ci0 vs)]] (.v (.bool true))) : Sound prog 0 false (vJ f4 6) (BS gs pub vs ps b true).aa .normal (MD ps b).aa :=
 v8 [(83, { ch := 0, hi := fun _ => 0, ex := 4, av := fun k => .tp [.ag (.sx k N :: [ci0 pub, ci0 vs]), vi0 0], lp := some { kd := 9, I := { n := 0, sl := [] }, ex := .normal, E := { n := 0, sl := [], hp := [(0, .gr [.l (gsC gs)] 94 23)] }, fr := 0 } }), (95, ov (.v (.bool true)))] 82 [9] [17, 30] (ai (h) (ai (g) tt0))
abbrev OP (pub : Int) (vs : Int) : List Ch := [.c (.slice none 0 0), ci0 pub, ci0 vs]
theorem Ts (pub vs : Int) (ps : List A1) (b : A2) (g : qN prog 9 [.t (.v (.string (ofL (cS [] pub vs))))] (.tp [.ag (OP pub vs), vi0 0])) (h : qN prog 19 [.t (.ag (OP pub vs)), .ags [.z [.l (gsC [])] 0, .c (ci0 pub), .c (ci0 vs)]] (.v (.bool true))) : Sound prog 0 false (vJ f4 6) (BS [] pub vs ps b true).aa .normal (MD ps b).aa :=
 v8 [(83, ov (.tp [.ag (OP pub vs), vi0 0])), (95, ov (.v (.bool true)))] 82 [9] [17, 30] (ai (h) (ai (g) tt0))
end Go.Proofs.YtokjhbmmdmeafaaGreat
set_option linter.unusedSimpArgs false
set_option linter.unusedVariables false
namespace Go.Proofs.YtokjhbmmdmeafaaGreat
open Go.Ev Go.RowKit
open Tryz
theorem FD (p : PF) (v : VT) (ns : List Nat) (gs : List GT) (pub vs : Int) (ps : List A1) (b : A2) : Sound prog 0 false (vJ f4 0) (CC p v ns gs pub vs ps b (vp p == 0)).aa .normal (Ru v ns gs pub vs ps b).aa := by
 by_cases h : vp p = 0
 ·rw [show (vp p == 0) = true from by simpa using h]
  obtain ⟨e1, e2⟩ := WJ p h
  have g := Yv (pfS p) e1
  rw [e2] at g
  exact US p v ns gs pub vs ps b ⟨fun vs w => Go.Proofs.enters_of (P := prog) func6 (by kernel_rfl) rfl vs w, g⟩
 ·rw [show (vp p == 0) = false from by simpa using h]
  exact WR p v ns gs pub vs ps b
theorem acc {v : VT} (h : rL v = 0) : Gh v := by
 by_cases c : Gh v
 ·exact c
 ·rw [show rL v = 1 from if_neg c] at h; exact absurd h (by decide)
theorem vx (a : A1) : Fit (flat (ptP a)) pKs :=
 (q8 6 a.1).append ((q8 6 a.2.1).append (show Fit [.bool a.2.2] [K.b] from ⟨tt0, tt0⟩))
theorem abU {v : VT} (h : Gh v) : Fit (flat v.ch) vKs := by
 obtain ⟨h1, h2, h3, h4⟩ := h
 have e : flat v.ch = [.int .i64 v.l, .int .i64 v.p] ++ (flat (ptP v.q0) ++ (flat (ptP v.q1) ++ (flat (ptP v.q2) ++ (flat (ptP v.q3) ++ (flat (ptP v.q4) ++ (flat (ptP v.s0) ++ (flat (ptP v.s1) ++ (flat (ptP v.s2) ++ (limbs 6 v.b.1.1 ++ (limbs 6 v.b.1.2 ++ (limbs 6 v.b.2.1.1 ++ (limbs 6 v.b.2.1.2 ++ [.bool v.b.2.2])))))))))))) := by
  simp [VT.ch, flat, Ch.cells, ptP]
 rw [e]
 exact Fit.append (show Fit [.int .i64 v.l, .int .i64 v.p] [K.i .i64, K.i .i64] from ⟨⟨rfl, Df (by omega) (by omega)⟩, ⟨rfl, Df (by omega) (by omega)⟩, tt0⟩)
  ((vx _).append ((vx _).append ((vx _).append ((vx _).append ((vx _).append ((vx _).append ((vx _).append ((vx _).append
  ((q8 6 _).append ((q8 6 _).append ((q8 6 _).append ((q8 6 _).append (show Fit [.bool v.b.2.2] [K.b] from ⟨tt0, tt0⟩)))))))))))))
theorem FV (v : VT) (ns : List Nat) (gs : List GT) (pub vs : Int) (ps : List A1) (b : A2) : Sound prog 0 false (vJ f4 2) (CW v ns gs pub vs ps b (rL v == 0)).aa .normal (Oq ns gs pub vs ps b).aa := by
 by_cases h : rL v = 0
 ·rw [show (rL v == 0) = true from by simpa using h]
  obtain ⟨e1, e2⟩ := YB v h
  have g := Yd (ckS v) e1
  rw [e2] at g
  exact SW v ns gs pub vs ps b (abU (acc h)) ⟨fun vs w => Go.Proofs.enters_of (P := prog) func7 (by kernel_rfl) rfl vs w, g⟩
 ·rw [show (rL v == 0) = false from by simpa using h]
  exact Xv v ns gs pub vs ps b
theorem GE (ns : List Nat) (hb : sm4 ns) (gs : List GT) (pub vs : Int) (ps : List A1) (b : A2) : Sound prog 0 false (vJ f4 4) (BP ns gs pub vs ps b (wE ns == 0)).aa .normal (M8 gs pub vs ps b).aa := by
 by_cases h : wOK ns
 ·rw [show (wE ns == 0) = true from by rw [show wE ns = 0 from if_pos h]; rfl]
  have hS : wS ns = sH ns ns.length := if_pos h
  obtain ⟨a0, a1, a2, a3, a4, a5, a6⟩ := YA ns h.2 h.1 (wS ns) hS
  have hl := h.1
  rcases Nat.eq_zero_or_pos ns.length with hz | hz
  ·have hn : ns = [] := List.length_eq_zero_iff.1 hz
   have g := WL (wS ns) a0 a1 a2 (by rw [a3]; exact hl) (by rw [a3]; exact a4) (by rw [a3]; exact hz)
   rw [hn] at g ⊢
   exact UU gs pub vs ps b ⟨fun vs w => Go.Proofs.enters_of (P := prog) func8 (by kernel_rfl) rfl vs w, g⟩ ⟨fun vs w => Go.Proofs.enters_of (P := prog) func17 (by kernel_rfl) rfl vs w, W1⟩
  ·have g := Zi (wS ns) a0 a1 a2 (by rw [a3]; exact hl) (by rw [a3]; exact a4) (by rw [a3]; exact hz) (by rw [a3, a5])
   rw [a3, a6] at g
   exact UT ns gs pub vs ps b ns.length g ⟨fun vs w => Go.Proofs.enters_of (P := prog) func17 (by kernel_rfl) rfl vs w, Gives.rx2 (abd ns (by omega))⟩
 ·rw [show (wE ns == 0) = false from by rw [show wE ns = 1 from if_neg h]; rfl]
  exact W8 ns gs pub vs ps b
theorem Tf {gs : List GT} {pub vs : Int} (h : cOK gs pub vs) : ∀ g, g ∈ gs -> smW g := fun g hg w hw => by
 obtain ⟨⟨_, _, _, _, r5⟩, hv, _⟩ := h
 obtain ⟨o0, o1, o2⟩ := r5 g hg
 unfold bw at o0 o1 o2
 rcases hw with rfl | rfl | rfl <;> omega
theorem FE (gs : List GT) (pub vs : Int) (ps : List A1) (b : A2) : Sound prog 0 false (vJ f4 6) (BS gs pub vs ps b (cE gs pub vs == 0)).aa .normal (MD ps b).aa := by
 by_cases h : cOK gs pub vs
 ·rw [show (cE gs pub vs == 0) = true from by rw [show cE gs pub vs = 0 from if_pos h]; rfl]
  have hS : cS gs pub vs = qZ gs pub vs gs.length := if_pos h
  have hW := Tf h
  obtain ⟨hr, hv, hc⟩ := h
  obtain ⟨a0, a1, a2, a3, a4, a5, a6, a7, a8, a9, aA⟩ := Yx gs pub vs hr hv hc (cS gs pub vs) hS
  obtain ⟨r1, r2, r3, r4, r5⟩ := hr
  have ep : ((pub.toNat : Nat) : Int) = pub := by omega
  have ev : ((vs.toNat : Nat) : Int) = vs := by omega
  rcases Nat.eq_zero_or_pos gs.length with hz | hz
  ·have hn : gs = [] := List.length_eq_zero_iff.1 hz
   have hp0 : pub = 0 := by omega
   have g := Y6 (cS gs pub vs) gs.length a3 a0 a1 a2 r1 pub.toNat a4 a5 vs.toNat a6 a7 a8 hz (by omega) (YF _ _ (by omega) (by omega) (by omega))
   rw [ep, ev] at g
   rw [hn] at g ⊢
   exact Ts pub vs ps b ⟨fun vs w => Go.Proofs.enters_of (P := prog) func9 (by kernel_rfl) rfl vs w, g⟩ ⟨fun vs w => Go.Proofs.enters_of (P := prog) func19 (by kernel_rfl) rfl vs w, Yq pub vs⟩
  ·have hR : Gives prog 36 [.ags [.r [.l (gsC gs)] gs.length, .c (ci0 pub), .c (ci0 vs)]] (.v (.bool true)) := Gives.ags_r (Og gs pub vs ⟨r1, r2, r3, r4, r5⟩)
   have g := aca (cS gs pub vs) gs.length a3 a0 a1 a2 r1 pub.toNat a4 a5 vs.toNat a6 a7 a8 hz (HE _ _ aA) (by omega) (by rw [a9, ep, ev]; exact hR)
   rw [a9, ep, ev] at g
   exact To gs pub vs ps b gs.length g ⟨fun vs w => Go.Proofs.enters_of (P := prog) func19 (by kernel_rfl) rfl vs w, Gives.ags2 (aaP gs pub vs hW (by omega))⟩
 ·rw [show (cE gs pub vs == 0) = false from by rw [show cE gs pub vs = 1 from if_neg h]; rfl]
  exact XO gs pub vs ps b
end Go.Proofs.YtokjhbmmdmeafaaGreat
set_option linter.unusedSimpArgs false
set_option linter.unusedVariables false
namespace Go.Ev
open Go.RowKit
def Es (n m : Nat) : Array Bool := ((List.range n).map fun i => Nat.testBit m i).toArray
def V0 (P : Program) (X : Rules P) (env : List Entry) (inl : Inl) (os : Nat -> Ora) (ops : Array Oper) (fr fb : Nat) (S : Nat -> LState) (kk : Nat -> Nat -> Nat) (tau : Nat -> Nat -> List (Nat × Nat)) (m i m' : Nat) : Option Prop :=
 match ops[i]? with
 | none => none
 | some o =>
  match Bn (kk m i) (S m).hp, Dw P X env inl (fun _ => os (fr + i)) ops (kk m i) o (S m).aa True with
  | true, some (_, A1, ob1) =>
   (match tau m i with
   | [] => (match yg fb A1 (S m') [] && nmL (S m') with
    | true => some (ob1 /\ Cs A1 (HG (S m').sl) (Ii (S m').hp) [] = some (S m'))
    | false => none)
   | t => (match yg fb A1 (S m') t with
    | true => some (ob1 /\ so A1 (S m') t)
    | false => none))
  | _, _ => none
def KP (P : Program) (X : Rules P) (env : List Entry) (inl : Inl) (os : Nat -> Ora) (ops : Array Oper) (fr fb : Nat) (S : Nat -> LState) (kk : Nat -> Nat -> Nat) (tau : Nat -> Nat -> List (Nat × Nat)) (Ms : List (Nat × Nat)) (full : Nat) : Nat × Nat -> Option Prop
 | (0, m) => match Nat.beq m full && (Region.ready .any ops (Es ops.size m)).isEmpty with | true => some True | false => none
 | (f + 1, m) => match Region.ready .any ops (Es ops.size m) with
  | [] => none
  | i :: is => goL (fun i => match Ms.contains (f, m + 2 ^ i) && decide ((Es ops.size m).setIfInBounds i true = Es ops.size (m + 2 ^ i)) with
   | true => V0 P X env inl os ops fr fb S kk tau m i (m + 2 ^ i)
   | false => none) (i :: is)
def Dz (step : Nat × Nat -> Option Prop) : List (Nat × Nat) -> Option Prop
 | [] => some True
 | x :: l => match step x, Dz step l with | some p, some q => some (p /\ q) | _, _ => none
def Lz (P : Program) (X : Rules P) (env : List Entry) (inl : Inl) (os : Nat -> Ora) (fb : Nat) (c : Code) (k : Nat) (S : Nat -> LState) (kk : Nat -> Nat -> Nat) (tau : Nat -> Nat -> List (Nat × Nat)) (Ms : List (Nat × Nat)) (full : Nat) : Option Prop :=
 match c with
 | .region _ ops true => (match P.follows .mixedOrders && Ms.contains (ops.size, 0) && decide (Es ops.size 0 = Array.replicate ops.size false) with
  | true => Dz (KP P X env inl os ops k fb S kk tau Ms full) Ms
  | false => none)
 | _ => none
section
variable {P : Program} {X : Rules P} {env : List Entry} {inl : Inl} {os : Nat -> Ora} {ops : Array Oper} {fr fb : Nat} {S : Nat -> LState} {kk : Nat -> Nat -> Nat} {tau : Nat -> Nat -> List (Nat × Nat)} {Ms : List (Nat × Nat)} {full : Nat}
theorem y7 {step : Nat × Nat -> Option Prop} : ∀ {l : List (Nat × Nat)} {p : Prop}, Dz step l = some p -> p -> ∀ x, x ∈ l -> ∃ q, step x = some q /\ q
 | [], p, h, hp, i, hi => by cases hi
 | j :: l, p, h, hp, i, hi => by
  simp only [Dz] at h
  split at h
  ·rename_i q1 q2 h1 h2
   simp only [oi0] at h; subst h
   rcases List.mem_cons.1 hi with rfl | hi
   ·exact ⟨q1, h1, hp.1⟩
   ·exact y7 h2 hp.2 i hi
  ·cases h
theorem EG (henv : s9 P env) (hinl : InlOK P inl) {p : Prop} (h : Dz (KP P X env inl os ops fr fb S kk tau Ms full) Ms = some p) (hp : p) : ∀ (f m : Nat), (f, m) ∈ Ms →
  ∀ (w0 : World) {F : Fence} (hF : r7 F) (n : Nat) (Q : Exit -> Act -> World -> Prop) ρ a w, Rel w0 ρ (S m).aa a w -> (∀ ρ' a' w', ρ.leB fb ρ' -> Rel w0 ρ' (S full).aa a' w' -> Q .normal a' w') -> wpAnyIn F n P .any ops Q f (Es ops.size m) a w
 | 0, m, hm => by
  intro w0 F hF n Q ρ a w hR hQ
  obtain ⟨q, h1, h2⟩ := y7 h hp _ hm
  simp only [KP] at h1
  split at h1
  ·rename_i hb
   simp only [Bool.and_eq_true] at hb
   have e := Nat.eq_of_beq_eq_true hb.1
   subst e
   exact ⟨List.isEmpty_iff.1 hb.2, hQ ρ a w (ρ.le_refl.leB fb) hR⟩
  ·cases h1
 | f + 1, m, hm => by
  intro w0 F hF n Q ρ a w hR hQ
  obtain ⟨q, h1, h2⟩ := y7 h hp _ hm
  simp only [KP] at h1
  split at h1
  ·cases h1
  ·rename_i i0 is hr
   refine ⟨fun h0 => (by rw [hr] at h0; cases h0), fun i hi => ?_⟩
   rw [hr] at hi
   obtain ⟨q1, g1, g2⟩ := B1 h1 h2 i hi
   split at g1
   ·rename_i hc
    simp only [Bool.and_eq_true, decide_eq_true_eq] at hc
    have hmem : (f, m + 2 ^ i) ∈ Ms := by simpa using hc.1
    unfold V0 at g1
    split at g1
    ·cases g1
    ·rename_i o ho
     split at g1
     ·rename_i k1 A1 ob1 hlt hs
      have key : ob1 /\ (∀ ρ' a' w', Rel w0 ρ' A1 a' w' -> ∃ ρ'', ρ'.leB fb ρ'' /\ Rel w0 ρ'' (S (m + 2 ^ i)).aa a' w') := by
       split at g1
       ·split at g1
        ·rename_i hb
         simp only [oi0] at g1; subst g1
         simp only [Bool.and_eq_true] at hb
         exact ⟨g2.1, fun ρ' a' w' hR' => uw hb.1 (ut g2.2 hb.2) hR'⟩
        ·cases g1
       ·split at g1
        ·rename_i hb
         simp only [oi0] at g1; subst g1
         exact ⟨g2.1, fun ρ' a' w' hR' => uw hb g2.2 hR'⟩
        ·cases g1
      obtain ⟨f1, s1⟩ := yb (w0 := w0) henv hinl hs key.1 (fun j hj => tG hlt j hj)
      unfold wpOpIn
      simp only [ho]
      refine s1 hF n Q _ ρ a w hR fun ρ' a' w' hl hR' => ?_
      obtain ⟨ρ'', e1, e2⟩ := key.2 ρ' a' w' hR'
      rw [hc.2]
      exact EG henv hinl h hp f (m + 2 ^ i) hmem w0 hF n Q ρ'' a' w' e2 fun ρ3 a3 w3 hl3 hR3 => hQ ρ3 a3 w3 (Names.leB_trans (hl.leB fb) (Names.leB_trans e1 hl3)) hR3
     ·cases g1
   ·cases g1
theorem DB (henv : s9 P env) (hinl : InlOK P inl) {rd : Bool} {c : Code} {k : Nat} {p : Prop} (h : Lz P X env inl os fb c k S kk tau Ms full = some p) (hp : p) : Sound P fb rd c (S 0).aa .normal (S full).aa := by
 unfold Lz at h
 split at h
 ·rename_i id ops
  split at h
  ·rename_i hb
   simp only [Bool.and_eq_true, decide_eq_true_eq] at hb
   intro w0 F hF hrd n Q ρ a w hR hQ
   have hm : (ops.size, 0) ∈ Ms := by simpa using hb.1.2
   have := EG henv hinl h hp ops.size 0 hm w0 hF n Q ρ a _ hR.drew hQ
   rw [hb.2] at this
   exact wpIn_region_any hb.1.1 this
  ·cases h
 ·cases h
end
end Go.Ev
set_option linter.unusedSimpArgs false
set_option linter.unusedVariables false
namespace Go.Proofs.YtokjhbmmdmeafaaGreat
open Go.Ev Go.RowKit
open Tryz
def bkS (p : PF) (v : VT) (n0 ns : List Nat) (g0 : List GT) (pub vs : Int) (p0 ps : List A1) (b : A2) (m : Nat) : LState := { n := 181, sl := [(2, (match Nat.testBit m 12 with | true => .sz 23 ns.length | false => .sz 2 n0.length)), (5, .p 14 0), (6, .p 15 0), (8, .p 16 0), (9, .p 17 0)] ++ (match Nat.testBit m 0 with | true => [(32, .sz 2 n0.length)] | false => []) ++ (match Nat.testBit m 1 with | true => [(33, .sz 2 n0.length)] | false => []) ++ (match Nat.testBit m 2 with | true => [(34, .v (.int .i64 ((n0.length : Nat) : Int)))] | false => []) ++ (match Nat.testBit m 3 with | true => [(35, .v (.int .i64 (if (70 : Int) < ((n0.length : Nat) : Int) then (70 : Int) else ((n0.length : Nat) : Int))))] | false => []) ++ (match Nat.testBit m 4 with | true => [(36, .sz 23 ns.length)] | false => []) ++ (match Nat.testBit m 5 with | true => [(37, .p 17 0)] | false => []) ++ (match Nat.testBit m 6 with | true => [(38, .sz 7 p0.length)] | false => []) ++ (match Nat.testBit m 7 with | true => [(39, .p 17 0)] | false => []) ++ (match Nat.testBit m 8 with | true => [(40, .sz 7 p0.length)] | false => []) ++ (match Nat.testBit m 9 with | true => [(41, .v (.int .i64 ((p0.length : Nat) : Int)))] | false => []) ++ (match Nat.testBit m 10 with | true => [(42, .v (.int .i64 (if (20 : Int) < ((p0.length : Nat) : Int) then (20 : Int) else ((p0.length : Nat) : Int))))] | false => []) ++ (match Nat.testBit m 11 with | true => [(43, .sz 30 ps.length)] | false => []) ++ (match Nat.testBit m 13 with | true => [(44, .p 17 0)] | false => []), hp := [(2, .rz [.l (numC 4 n0)]), (3, .rz [.l (gsC g0)]), (7, .rz [.l (qt p0)]), (14, .own p.ch 30), (15, .own v.ch 41), (16, .own [.sz 3 g0.length, .c (.int .i64 pub), .c (.int .i64 vs)] 49), (17, (match Nat.testBit m 14 with | true => .own (.sz 30 ps.length :: pt2 b) 54 | false => .own (.sz 7 p0.length :: pt2 b) 54))] ++ (match Nat.testBit m 4 with | true => [(23, .rz [.l (numC 4 ns)])] | false => []) ++ (match Nat.testBit m 11 with | true => [(30, .rz [.l (qt ps)])] | false => []) }
def bkN (m i : Nat) : Nat := match Nat.beq i 4, Nat.beq i 11 with | true, _ => (match Nat.testBit m 11 with | true => 31 | false => 23) | _, true => 30 | _, _ => 31
def bkT (m i : Nat) : List (Nat × Nat) := match Nat.beq i 4, Nat.testBit m 11 with | true, true => [(23, 31)] | _, _ => []
def aeh : List (Nat × Nat) := [(15, 0), (14, 1), (14, 2), (14, 32), (14, 128), (13, 3), (13, 6), (13, 33), (13, 34), (13, 96), (13, 129), (13, 130), (13, 160), (13, 384), (12, 7), (12, 14), (12, 35), (12, 38), (12, 97), (12, 98), (12, 131), (12, 134), (12, 161), (12, 162), (12, 224), (12, 385), (12, 386), (12, 416), (12, 896), (11, 15), (11, 39), (11, 46), (11, 99), (11, 102), (11, 135), (11, 142), (11, 163), (11, 166), (11, 225), (11, 226), (11, 387), (11, 390), (11, 417), (11, 418), (11, 480), (11, 897), (11, 898), (11, 928), (11, 1920), (10, 31), (10, 47), (10, 103), (10, 110), (10, 143), (10, 167), (10, 174), (10, 227), (10, 230), (10, 391), (10, 398), (10, 419), (10, 422), (10, 481), (10, 482), (10, 899), (10, 902), (10, 929), (10, 930), (10, 992), (10, 1921), (10, 1922), (10, 1952), (9, 63), (9, 111), (9, 159), (9, 175), (9, 231), (9, 238), (9, 399), (9, 423), (9, 430), (9, 483), (9, 486), (9, 903), (9, 910), (9, 931), (9, 934), (9, 993), (9, 994), (9, 1923), (9, 1926), (9, 1953), (9, 1954), (9, 2016), (9, 4127), (8, 127), (8, 191), (8, 239), (8, 415), (8, 431), (8, 487), (8, 494), (8, 911), (8, 935), (8, 942), (8, 995), (8, 998), (8, 1927), (8, 1934), (8, 1955), (8, 1958), (8, 2017), (8, 2018), (8, 4064), (8, 4159), (8, 4255), (7, 255), (7, 447), (7, 495), (7, 927), (7, 943), (7, 999), (7, 1006), (7, 1935), (7, 1959), (7, 1966), (7, 2019), (7, 2022), (7, 4065), (7, 4066), (7, 4223), (7, 4287), (7, 4511), (6, 511), (6, 959), (6, 1007), (6, 1951), (6, 1967), (6, 2023), (6, 2030), (6, 4067), (6, 4070), (6, 4351), (6, 4543), (6, 5023), (5, 1023), (5, 1983), (5, 2031), (5, 4071), (5, 4078), (5, 4607), (5, 5055), (5, 6047), (4, 2047), (4, 4079), (4, 5119), (4, 6079), (3, 4095), (3, 6143), (2, 8191), (1, 16383), (0, 32767)]
theorem A8 (p : PF) (v : VT) (n0 ns : List Nat) (g0 : List GT) (pub vs : Int) (p0 ps : List A1) (b : A2) (c4 : (if (70 : Int) < ((n0.length : Nat) : Int) then (70 : Int) else ((n0.length : Nat) : Int)) = ((ns.length : Nat) : Int) /\ ns.length <= n0.length /\ flat [.l (numC 4 ns)] = (flat [.l (numC 4 n0)]).take (ns.length * 4)) (c11 : (if (20 : Int) < ((p0.length : Nat) : Int) then (20 : Int) else ((p0.length : Nat) : Int)) = ((ps.length : Nat) : Int) /\ ps.length <= p0.length /\ flat [.l (qt ps)] = (flat [.l (qt p0)]).take (ps.length * 13)) : Sound prog 0 false (OG f4 0) (bkS p v n0 ns g0 pub vs p0 ps b 0).aa .normal (bkS p v n0 ns g0 pub vs p0 ps b 32767).aa :=
 DB (P := prog) (X := uK _) (env := []) trivial (tj (P := prog) (X := uK _) (env := []) (os := oL [(23, { ch := 0, hi := fun _ => ns.length, ex := 6, cs := fun _ => [.l (numC 4 ns)] }), (30, { ch := 0, hi := fun _ => ps.length, ex := 6, cs := fun _ => [.l (qt ps)] })]) trivial 0) (os := oL [(23, { ch := 0, hi := fun _ => ns.length, ex := 6, cs := fun _ => [.l (numC 4 ns)] }), (30, { ch := 0, hi := fun _ => ps.length, ex := 6, cs := fun _ => [.l (qt ps)] })]) (fb := 0) (k := 19) (S := bkS p v n0 ns g0 pub vs p0 ps b) (kk := bkN) (tau := bkT) (Ms := aeh) (full := 32767) (by kernel_rfl)
  (have hR : ∀ m, some (bkS p v n0 ns g0 pub vs p0 ps b m) = some (bkS p v n0 ns g0 pub vs p0 ps b m) := fun _ => rfl; have hfit : ((true = true /\ n0.length = n0.length) /\ (ED 0) /\ (ED 0) /\ (ED 0) /\ (ED 0) /\ (true = true /\ n0.length = n0.length) /\ (true = true /\ n0.length = n0.length) /\ (Value.int .i64 ((n0.length : Nat) : Int)) = (Value.int .i64 ((n0.length : Nat) : Int)) /\ (Value.int .i64 (if (70 : Int) < ((n0.length : Nat) : Int) then (70 : Int) else ((n0.length : Nat) : Int))) = (Value.int .i64 (if (70 : Int) < ((n0.length : Nat) : Int) then (70 : Int) else ((n0.length : Nat) : Int))) /\ (true = true /\ ns.length = ns.length) /\ (ED 0) /\ (true = true /\ p0.length = p0.length) /\ (ED 0) /\ (true = true /\ p0.length = p0.length) /\ (Value.int .i64 ((p0.length : Nat) : Int)) = (Value.int .i64 ((p0.length : Nat) : Int)) /\ (Value.int .i64 (if (20 : Int) < ((p0.length : Nat) : Int) then (20 : Int) else ((p0.length : Nat) : Int))) = (Value.int .i64 (if (20 : Int) < ((p0.length : Nat) : Int) then (20 : Int) else ((p0.length : Nat) : Int))) /\ (true = true /\ ps.length = ps.length) /\ True) /\ (flat [.l (numC 4 n0)] = flat [.l (numC 4 n0)] /\ flat [.l (gsC g0)] = flat [.l (gsC g0)] /\ flat [.l (qt p0)] = flat [.l (qt p0)] /\ (30 = 30 /\ flat p.ch = flat p.ch) /\ (41 = 41 /\ flat v.ch = flat v.ch) /\ (49 = 49 /\ (true = true /\ g0.length = g0.length) /\ (Wu (.int .i64 pub)) /\ (Wu (.int .i64 vs)) /\ True) /\ (54 = 54 /\ (true = true /\ p0.length = p0.length) /\ (true = true /\ true = true /\ limbs 6 b.1.1 = limbs 6 b.1.1) /\ (true = true /\ true = true /\ limbs 6 b.1.2 = limbs 6 b.1.2) /\ (true = true /\ true = true /\ limbs 6 b.2.1.1 = limbs 6 b.2.1.1) /\ (true = true /\ true = true /\ limbs 6 b.2.1.2 = limbs 6 b.2.1.2) /\ (true = true /\ true = true /\ [Value.bool b.2.2] = [Value.bool b.2.2]) /\ True) /\ flat [.l (numC 4 ns)] = flat [.l (numC 4 ns)] /\ flat [.l (qt ps)] = flat [.l (qt ps)] /\ True) := ⟨⟨rr0, rr0, rr0, rr0, rr0, rr0, rr0, rfl, rfl, rr0, rr0, rr0, rr0, rr0, rfl, rfl, rr0, tt0⟩, ⟨rfl, rfl, rfl, rr0, rr0, ⟨rfl, rr0, r30, r30, tt0⟩, ⟨rfl, rr0, r30, r30, r30, r30, r30, tt0⟩, rfl, rfl, tt0⟩⟩; (ai (ai (ai trivial (hR 1)) (ai (ai trivial (hR 2)) (ai (ai trivial (hR 32)) (ai (ai trivial (hR 128)) tt0)))) (ai (ai (ai trivial (hR 3)) (ai (ai trivial (hR 33)) (ai (ai trivial (hR 129)) tt0))) (ai (ai (ai trivial (hR 3)) (ai (ai trivial (hR 6)) (ai (ai trivial (hR 34)) (ai (ai trivial (hR 130)) tt0)))) (ai (ai (ai trivial (hR 33)) (ai (ai trivial (hR 34)) (ai (ai trivial (hR 96)) (ai (ai trivial (hR 160)) tt0)))) (ai (ai (ai trivial (hR 129)) (ai (ai trivial (hR 130)) (ai (ai trivial (hR 160)) (ai (ai trivial (hR 384)) tt0)))) (ai (ai (ai trivial (hR 7)) (ai (ai trivial (hR 35)) (ai (ai trivial (hR 131)) tt0))) (ai (ai (ai trivial (hR 7)) (ai (ai trivial (hR 14)) (ai (ai trivial (hR 38)) (ai (ai trivial (hR 134)) tt0)))) (ai (ai (ai trivial (hR 35)) (ai (ai trivial (hR 97)) (ai (ai trivial (hR 161)) tt0))) (ai (ai (ai trivial (hR 35)) (ai (ai trivial (hR 38)) (ai (ai trivial (hR 98)) (ai (ai trivial (hR 162)) tt0)))) (ai (ai (ai trivial (hR 97)) (ai (ai trivial (hR 98)) (ai (ai trivial (hR 224)) tt0))) (ai (ai (ai trivial (hR 131)) (ai (ai trivial (hR 161)) (ai (ai trivial (hR 385)) tt0))) (ai (ai (ai trivial (hR 131)) (ai (ai trivial (hR 134)) (ai (ai trivial (hR 162)) (ai (ai trivial (hR 386)) tt0)))) (ai (ai (ai trivial (hR 161)) (ai (ai trivial (hR 162)) (ai (ai trivial (hR 224)) (ai (ai trivial (hR 416)) tt0)))) (ai (ai (ai trivial (hR 385)) (ai (ai trivial (hR 386)) (ai (ai trivial (hR 416)) (ai (ai trivial (hR 896)) tt0)))) (ai (ai (ai trivial (hR 15)) (ai (ai trivial (hR 39)) (ai (ai trivial (hR 135)) tt0))) (ai (ai (ai trivial (hR 15)) (ai (ai trivial (hR 46)) (ai (ai trivial (hR 142)) tt0))) (ai (ai (ai trivial (hR 39)) (ai (ai trivial (hR 99)) (ai (ai trivial (hR 163)) tt0))) (ai (ai (ai trivial (hR 39)) (ai (ai trivial (hR 46)) (ai (ai trivial (hR 102)) (ai (ai trivial (hR 166)) tt0)))) (ai (ai (ai trivial (hR 99)) (ai (ai trivial (hR 225)) tt0)) (ai (ai (ai trivial (hR 99)) (ai (ai trivial (hR 102)) (ai (ai trivial (hR 226)) tt0))) (ai (ai (ai trivial (hR 135)) (ai (ai trivial (hR 163)) (ai (ai trivial (hR 387)) tt0))) (ai (ai (ai trivial (hR 135)) (ai (ai trivial (hR 142)) (ai (ai trivial (hR 166)) (ai (ai trivial (hR 390)) tt0)))) (ai (ai (ai trivial (hR 163)) (ai (ai trivial (hR 225)) (ai (ai trivial (hR 417)) tt0))) (ai (ai (ai trivial (hR 163)) (ai (ai trivial (hR 166)) (ai (ai trivial (hR 226)) (ai (ai trivial (hR 418)) tt0)))) (ai (ai (ai trivial (hR 225)) (ai (ai trivial (hR 226)) (ai (ai trivial (hR 480)) tt0))) (ai (ai (ai trivial (hR 387)) (ai (ai trivial (hR 417)) (ai (ai trivial (hR 897)) tt0))) (ai (ai (ai trivial (hR 387)) (ai (ai trivial (hR 390)) (ai (ai trivial (hR 418)) (ai (ai trivial (hR 898)) tt0)))) (ai (ai (ai trivial (hR 417)) (ai (ai trivial (hR 418)) (ai (ai trivial (hR 480)) (ai (ai trivial (hR 928)) tt0)))) (ai (ai (ai trivial (hR 897)) (ai (ai trivial (hR 898)) (ai (ai trivial (hR 928)) (ai (ai trivial (hR 1920)) tt0)))) (ai (ai (ai (ai c4 tt0) (hR 31)) (ai (ai trivial (hR 47)) (ai (ai trivial (hR 143)) tt0))) (ai (ai (ai trivial (hR 47)) (ai (ai trivial (hR 103)) (ai (ai trivial (hR 167)) tt0))) (ai (ai (ai trivial (hR 47)) (ai (ai trivial (hR 110)) (ai (ai trivial (hR 174)) tt0))) (ai (ai (ai trivial (hR 103)) (ai (ai trivial (hR 227)) tt0)) (ai (ai (ai trivial (hR 103)) (ai (ai trivial (hR 110)) (ai (ai trivial (hR 230)) tt0))) (ai (ai (ai trivial (hR 143)) (ai (ai trivial (hR 167)) (ai (ai trivial (hR 391)) tt0))) (ai (ai (ai trivial (hR 143)) (ai (ai trivial (hR 174)) (ai (ai trivial (hR 398)) tt0))) (ai (ai (ai trivial (hR 167)) (ai (ai trivial (hR 227)) (ai (ai trivial (hR 419)) tt0))) (ai (ai (ai trivial (hR 167)) (ai (ai trivial (hR 174)) (ai (ai trivial (hR 230)) (ai (ai trivial (hR 422)) tt0)))) (ai (ai (ai trivial (hR 227)) (ai (ai trivial (hR 481)) tt0)) (ai (ai (ai trivial (hR 227)) (ai (ai trivial (hR 230)) (ai (ai trivial (hR 482)) tt0))) (ai (ai (ai trivial (hR 391)) (ai (ai trivial (hR 419)) (ai (ai trivial (hR 899)) tt0))) (ai (ai (ai trivial (hR 391)) (ai (ai trivial (hR 398)) (ai (ai trivial (hR 422)) (ai (ai trivial (hR 902)) tt0)))) (ai (ai (ai trivial (hR 419)) (ai (ai trivial (hR 481)) (ai (ai trivial (hR 929)) tt0))) (ai (ai (ai trivial (hR 419)) (ai (ai trivial (hR 422)) (ai (ai trivial (hR 482)) (ai (ai trivial (hR 930)) tt0)))) (ai (ai (ai trivial (hR 481)) (ai (ai trivial (hR 482)) (ai (ai trivial (hR 992)) tt0))) (ai (ai (ai trivial (hR 899)) (ai (ai trivial (hR 929)) (ai (ai trivial (hR 1921)) tt0))) (ai (ai (ai trivial (hR 899)) (ai (ai trivial (hR 902)) (ai (ai trivial (hR 930)) (ai (ai trivial (hR 1922)) tt0)))) (ai (ai (ai trivial (hR 929)) (ai (ai trivial (hR 930)) (ai (ai trivial (hR 992)) (ai (ai trivial (hR 1952)) tt0)))) (ai (ai (ai trivial (hR 1921)) (ai (ai trivial (hR 1922)) (ai (ai trivial (hR 1952)) tt0))) (ai (ai (ai trivial (hR 63)) (ai (ai trivial (hR 159)) (ai (ai trivial (hR 4127)) tt0))) (ai (ai (ai (ai c4 tt0) (hR 63)) (ai (ai trivial (hR 111)) (ai (ai trivial (hR 175)) tt0))) (ai (ai (ai trivial (hR 111)) (ai (ai trivial (hR 231)) tt0)) (ai (ai (ai trivial (hR 111)) (ai (ai trivial (hR 238)) tt0)) (ai (ai (ai (ai c4 tt0) (hR 159)) (ai (ai trivial (hR 175)) (ai (ai trivial (hR 399)) tt0))) (ai (ai (ai trivial (hR 175)) (ai (ai trivial (hR 231)) (ai (ai trivial (hR 423)) tt0))) (ai (ai (ai trivial (hR 175)) (ai (ai trivial (hR 238)) (ai (ai trivial (hR 430)) tt0))) (ai (ai (ai trivial (hR 231)) (ai (ai trivial (hR 483)) tt0)) (ai (ai (ai trivial (hR 231)) (ai (ai trivial (hR 238)) (ai (ai trivial (hR 486)) tt0))) (ai (ai (ai trivial (hR 399)) (ai (ai trivial (hR 423)) (ai (ai trivial (hR 903)) tt0))) (ai (ai (ai trivial (hR 399)) (ai (ai trivial (hR 430)) (ai (ai trivial (hR 910)) tt0))) (ai (ai (ai trivial (hR 423)) (ai (ai trivial (hR 483)) (ai (ai trivial (hR 931)) tt0))) (ai (ai (ai trivial (hR 423)) (ai (ai trivial (hR 430)) (ai (ai trivial (hR 486)) (ai (ai trivial (hR 934)) tt0)))) (ai (ai (ai trivial (hR 483)) (ai (ai trivial (hR 993)) tt0)) (ai (ai (ai trivial (hR 483)) (ai (ai trivial (hR 486)) (ai (ai trivial (hR 994)) tt0))) (ai (ai (ai trivial (hR 903)) (ai (ai trivial (hR 931)) (ai (ai trivial (hR 1923)) tt0))) (ai (ai (ai trivial (hR 903)) (ai (ai trivial (hR 910)) (ai (ai trivial (hR 934)) (ai (ai trivial (hR 1926)) tt0)))) (ai (ai (ai trivial (hR 931)) (ai (ai trivial (hR 993)) (ai (ai trivial (hR 1953)) tt0))) (ai (ai (ai trivial (hR 931)) (ai (ai trivial (hR 934)) (ai (ai trivial (hR 994)) (ai (ai trivial (hR 1954)) tt0)))) (ai (ai (ai trivial (hR 993)) (ai (ai trivial (hR 994)) (ai (ai trivial (hR 2016)) tt0))) (ai (ai (ai trivial (hR 1923)) (ai (ai trivial (hR 1953)) tt0)) (ai (ai (ai trivial (hR 1923)) (ai (ai trivial (hR 1926)) (ai (ai trivial (hR 1954)) tt0))) (ai (ai (ai trivial (hR 1953)) (ai (ai trivial (hR 1954)) (ai (ai trivial (hR 2016)) tt0))) (ai (ai (ai trivial (hR 127)) (ai (ai trivial (hR 191)) (ai (ai trivial (hR 4159)) tt0))) (ai (ai (ai (ai c4 tt0) (hR 127)) (ai (ai trivial (hR 239)) tt0)) (ai (ai (ai trivial (hR 191)) (ai (ai trivial (hR 415)) (ai (ai trivial (hR 4255)) tt0))) (ai (ai (ai (ai c4 tt0) (hR 191)) (ai (ai trivial (hR 239)) (ai (ai trivial (hR 431)) tt0))) (ai (ai (ai trivial (hR 239)) (ai (ai trivial (hR 487)) tt0)) (ai (ai (ai trivial (hR 239)) (ai (ai trivial (hR 494)) tt0)) (ai (ai (ai (ai c4 tt0) (hR 415)) (ai (ai trivial (hR 431)) (ai (ai trivial (hR 911)) tt0))) (ai (ai (ai trivial (hR 431)) (ai (ai trivial (hR 487)) (ai (ai trivial (hR 935)) tt0))) (ai (ai (ai trivial (hR 431)) (ai (ai trivial (hR 494)) (ai (ai trivial (hR 942)) tt0))) (ai (ai (ai trivial (hR 487)) (ai (ai trivial (hR 995)) tt0)) (ai (ai (ai trivial (hR 487)) (ai (ai trivial (hR 494)) (ai (ai trivial (hR 998)) tt0))) (ai (ai (ai trivial (hR 911)) (ai (ai trivial (hR 935)) (ai (ai trivial (hR 1927)) tt0))) (ai (ai (ai trivial (hR 911)) (ai (ai trivial (hR 942)) (ai (ai trivial (hR 1934)) tt0))) (ai (ai (ai trivial (hR 935)) (ai (ai trivial (hR 995)) (ai (ai trivial (hR 1955)) tt0))) (ai (ai (ai trivial (hR 935)) (ai (ai trivial (hR 942)) (ai (ai trivial (hR 998)) (ai (ai trivial (hR 1958)) tt0)))) (ai (ai (ai trivial (hR 995)) (ai (ai trivial (hR 2017)) tt0)) (ai (ai (ai trivial (hR 995)) (ai (ai trivial (hR 998)) (ai (ai trivial (hR 2018)) tt0))) (ai (ai (ai trivial (hR 1927)) (ai (ai trivial (hR 1955)) tt0)) (ai (ai (ai trivial (hR 1927)) (ai (ai trivial (hR 1934)) (ai (ai trivial (hR 1958)) tt0))) (ai (ai (ai trivial (hR 1955)) (ai (ai trivial (hR 2017)) tt0)) (ai (ai (ai trivial (hR 1955)) (ai (ai trivial (hR 1958)) (ai (ai trivial (hR 2018)) tt0))) (ai (ai (ai trivial (hR 2017)) (ai (ai trivial (hR 2018)) (ai (ai (ai c11 tt0) (hR 4064)) tt0))) (ai (ai (ai trivial (hR 4159)) (ai (ai trivial (hR 4255)) tt0)) (ai (ai (ai trivial (hR 255)) (ai (ai trivial (hR 4223)) tt0)) (ai (ai (ai trivial (hR 255)) (ai (ai trivial (hR 447)) (ai (ai trivial (hR 4287)) tt0))) (ai (ai (ai (ai c4 tt0) (hR 255)) (ai (ai trivial (hR 495)) tt0)) (ai (ai (ai trivial (hR 447)) (ai (ai trivial (hR 927)) (ai (ai trivial (hR 4511)) tt0))) (ai (ai (ai (ai c4 tt0) (hR 447)) (ai (ai trivial (hR 495)) (ai (ai trivial (hR 943)) tt0))) (ai (ai (ai trivial (hR 495)) (ai (ai trivial (hR 999)) tt0)) (ai (ai (ai trivial (hR 495)) (ai (ai trivial (hR 1006)) tt0)) (ai (ai (ai (ai c4 tt0) (hR 927)) (ai (ai trivial (hR 943)) (ai (ai trivial (hR 1935)) tt0))) (ai (ai (ai trivial (hR 943)) (ai (ai trivial (hR 999)) (ai (ai trivial (hR 1959)) tt0))) (ai (ai (ai trivial (hR 943)) (ai (ai trivial (hR 1006)) (ai (ai trivial (hR 1966)) tt0))) (ai (ai (ai trivial (hR 999)) (ai (ai trivial (hR 2019)) tt0)) (ai (ai (ai trivial (hR 999)) (ai (ai trivial (hR 1006)) (ai (ai trivial (hR 2022)) tt0))) (ai (ai (ai trivial (hR 1935)) (ai (ai trivial (hR 1959)) tt0)) (ai (ai (ai trivial (hR 1935)) (ai (ai trivial (hR 1966)) tt0)) (ai (ai (ai trivial (hR 1959)) (ai (ai trivial (hR 2019)) tt0)) (ai (ai (ai trivial (hR 1959)) (ai (ai trivial (hR 1966)) (ai (ai trivial (hR 2022)) tt0))) (ai (ai (ai trivial (hR 2019)) (ai (ai (ai c11 tt0) (hR 4065)) tt0)) (ai (ai (ai trivial (hR 2019)) (ai (ai trivial (hR 2022)) (ai (ai (ai c11 tt0) (hR 4066)) tt0))) (ai (ai (ai trivial (hR 4065)) (ai (ai trivial (hR 4066)) tt0)) (ai (ai (ai trivial (hR 4223)) (ai (ai trivial (hR 4287)) tt0)) (ai (ai (ai trivial (hR 4287)) (ai (ai trivial (hR 4511)) tt0)) (ai (ai (ai trivial (hR 511)) (ai (ai trivial (hR 4351)) tt0)) (ai (ai (ai trivial (hR 511)) (ai (ai trivial (hR 959)) (ai (ai trivial (hR 4543)) tt0))) (ai (ai (ai (ai c4 tt0) (hR 511)) (ai (ai trivial (hR 1007)) tt0)) (ai (ai (ai trivial (hR 959)) (ai (ai trivial (hR 1951)) (ai (ai trivial (hR 5023)) tt0))) (ai (ai (ai (ai c4 tt0) (hR 959)) (ai (ai trivial (hR 1007)) (ai (ai trivial (hR 1967)) tt0))) (ai (ai (ai trivial (hR 1007)) (ai (ai trivial (hR 2023)) tt0)) (ai (ai (ai trivial (hR 1007)) (ai (ai trivial (hR 2030)) tt0)) (ai (ai (ai (ai c4 tt0) (hR 1951)) (ai (ai trivial (hR 1967)) tt0)) (ai (ai (ai trivial (hR 1967)) (ai (ai trivial (hR 2023)) tt0)) (ai (ai (ai trivial (hR 1967)) (ai (ai trivial (hR 2030)) tt0)) (ai (ai (ai trivial (hR 2023)) (ai (ai (ai c11 tt0) (hR 4067)) tt0)) (ai (ai (ai trivial (hR 2023)) (ai (ai trivial (hR 2030)) (ai (ai (ai c11 tt0) (hR 4070)) tt0))) (ai (ai (ai trivial (hR 4067)) tt0) (ai (ai (ai trivial (hR 4067)) (ai (ai trivial (hR 4070)) tt0)) (ai (ai (ai trivial (hR 4351)) tt0) (ai (ai (ai trivial (hR 4351)) (ai (ai trivial (hR 4543)) tt0)) (ai (ai (ai trivial (hR 4543)) (ai (ai trivial (hR 5023)) tt0)) (ai (ai (ai trivial (hR 1023)) (ai (ai trivial (hR 4607)) tt0)) (ai (ai (ai trivial (hR 1023)) (ai (ai trivial (hR 1983)) (ai (ai trivial (hR 5055)) tt0))) (ai (ai (ai (ai c4 tt0) (hR 1023)) (ai (ai trivial (hR 2031)) tt0)) (ai (ai (ai trivial (hR 1983)) (ai (ai trivial (hR 6047)) tt0)) (ai (ai (ai (ai c4 tt0) (hR 1983)) (ai (ai trivial (hR 2031)) tt0)) (ai (ai (ai trivial (hR 2031)) (ai (ai (ai c11 tt0) (hR 4071)) tt0)) (ai (ai (ai trivial (hR 2031)) (ai (ai (ai c11 tt0) (hR 4078)) tt0)) (ai (ai (ai trivial (hR 4071)) tt0) (ai (ai (ai trivial (hR 4071)) (ai (ai trivial (hR 4078)) tt0)) (ai (ai (ai trivial (hR 4607)) tt0) (ai (ai (ai trivial (hR 4607)) (ai (ai trivial (hR 5055)) tt0)) (ai (ai (ai trivial (hR 5055)) (ai (ai trivial (hR 6047)) tt0)) (ai (ai (ai trivial (hR 2047)) (ai (ai trivial (hR 5119)) tt0)) (ai (ai (ai trivial (hR 2047)) (ai (ai trivial (hR 6079)) tt0)) (ai (ai (ai (ai c4 tt0) (hR 2047)) (ai (ai (ai c11 tt0) (hR 4079)) tt0)) (ai (ai (ai trivial (hR 4079)) tt0) (ai (ai (ai trivial (hR 4079)) tt0) (ai (ai (ai trivial (hR 5119)) tt0) (ai (ai (ai trivial (hR 5119)) (ai (ai trivial (hR 6079)) tt0)) (ai (ai (ai trivial (hR 6079)) tt0) (ai (ai (ai (ai c11 tt0) (hR 4095)) (ai (ai trivial (hR 6143)) tt0)) (ai (ai (ai (ai c4 tt0) hfit) tt0) (ai (ai (ai trivial (hR 6143)) tt0) (ai (ai (ai trivial (hR 6143)) tt0) (ai (ai (ai trivial (hR 8191)) tt0) (ai (ai (ai (ai c11 tt0) (hR 8191)) tt0) (ai (ai (ai trivial (hR 16383)) tt0) (ai (ai (ai trivial (hR 32767)) tt0) (ai trivial tt0)))))))))))))))))))))))))))))))))))))))))))))))))))))))))))))))))))))))))))))))))))))))))))))))))))))))))))))))))))))))))))))))))))))))))))))))))))))))))))))))))))
end Go.Proofs.YtokjhbmmdmeafaaGreat
set_option linter.unusedSimpArgs false
set_option linter.unusedVariables false
namespace Go.Proofs.YtokjhbmmdmeafaaGreat
open Go.Ev Go.RowKit
open Tryz
theorem WE {α : Type} (f : α -> List Value) (m : Nat) (hf : ∀ a, (f a).length = m) (k : Nat) (g0 gs : List α) (h : gs = g0.take k) : (if ((k : Nat) : Int) < ((g0.length : Nat) : Int) then ((k : Nat) : Int) else ((g0.length : Nat) : Int)) = ((gs.length : Nat) : Int) /\ gs.length <= g0.length /\ flat [.l (gs.flatMap f)] = (flat [.l (g0.flatMap f)]).take (gs.length * m) := by
 have hl : gs.length = min k g0.length := by subst h; rw [List.length_take]
 refine ⟨?_, by omega, ?_⟩
 ·split <;> omega
 rw [x7, x7]
 have e : g0 = gs ++ g0.drop k := by rw [h, List.take_append_drop]
 have hc : ∀ l : List α, (l.flatMap f).length = l.length * m := fun l => by
  induction l with
  | nil => simp
  | cons a l ih => rw [List.flatMap_cons, List.length_append, ih, hf, List.length_cons, Nat.succ_mul]; omega
 conv => rhs; rw [e, List.flatMap_append, ← hc gs, List.take_left]
theorem Ez (ns : List Nat) : numC 4 ns = ns.flatMap (limbs 4) := by simp [numC, List.flatMap]
theorem R7 (g0 ns : List Nat) (h : ns = g0.take 70) : (if (70 : Int) < ((g0.length : Nat) : Int) then (70 : Int) else ((g0.length : Nat) : Int)) = ((ns.length : Nat) : Int) /\ ns.length <= g0.length /\ flat [.l (numC 4 ns)] = (flat [.l (numC 4 g0)]).take (ns.length * 4) := by
 rw [Ez, Ez]
 exact WE (limbs 4) 4 (fun a => sC 4 a) 70 g0 ns h
theorem JU (g0 gs : List GT) (h : gs = g0.take 20) : (if (20 : Int) < ((g0.length : Nat) : Int) then (20 : Int) else ((g0.length : Nat) : Int)) = ((gs.length : Nat) : Int) /\ gs.length <= g0.length /\ flat [.l (gsC gs)] = (flat [.l (gsC g0)]).take (gs.length * 23) := WE gC 23 Ba 20 g0 gs h
theorem Jh (g0 gs : List A1) (h : gs = g0.take 20) : (if (20 : Int) < ((g0.length : Nat) : Int) then (20 : Int) else ((g0.length : Nat) : Int)) = ((gs.length : Nat) : Int) /\ gs.length <= g0.length /\ flat [.l (qt gs)] = (flat [.l (qt g0)]).take (gs.length * 13) := WE ptC 13 zA 20 g0 gs h
def bkL (ps : List A1) (b : A2) (z : Int) : LState := { n := 181, sl := [(9, .p 17 0), (29, .p 97 0), (164, vi0 ((ps.length : Nat) : Int)), (165, vi0 z)], hp := [(17, .own (.sz 30 ps.length :: pt2 b) 54), (30, .rz [.l (qt ps)]), (93, .gr [.l (qt ps)] 26 13), (97, .own (.sx 93 ps.length :: pt2 b) 54)] }
def bkZ : LState := { n := 181, sl := [], hp := [] }
theorem O3 (ps : List A1) (b : A2) (hm : ps.length <= 20) (i : Nat) (a : A1) (ha : ps[i]? = some a) : Sound prog 0 false (qc f4 0) (bkL ps b (i : Int)).aa .normal (bkL ps b ((i + 1 : Nat) : Int)).aa := by
 have hi := plt ha
 have hs := p9 (P := prog) (X := uK _) (env := []) trivial (n := 0) (os := oL [(122, wT), (128, rO 9 i), (129, { ch := 0, hi := fun _ => 0, ru := 8, cs := fun _ => ptP a }), (133, rO 14 i), (134, { ch := 0, hi := fun _ => 0, ru := 8, cs := fun _ => ptP a })]) (fb := 0) (rd := false) (c := (qc f4 0)) (k := 122) (I := bkL ps b (i : Int)) (sk := [9, 29, 164, 165]) (hk := [17, 30, 93, 97]) (lk := []) (ex := .normal)
  (L := bkL ps b (IntKind.i64.wrap ((i : Int) + 1))) (by kernel_rfl) (ai (show flat (ptP a) = flat (ptP a) from rfl) (ai (BI ps i a ha) (ai (show (i : Int) = ((i : Nat) : Int) /\ i < ps.length from ⟨rfl, hi⟩) (ai (BI ps i a ha) (ai (show (i : Int) = ((i : Nat) : Int) /\ i < ps.length from ⟨rfl, hi⟩) (ai (show decide ((i : Int) < ((ps.length : Nat) : Int)) = true from decide_eq_true (by omega)) tt0))))))
 rw [show IntKind.i64.wrap ((i : Int) + 1) = ((i + 1 : Nat) : Int) by rw [qj]; omega] at hs
 exact hs
theorem XW (ps : List A1) (b : A2) : Sound prog 0 false (qc f4 0) (bkL ps b ((ps.length : Nat) : Int)).aa (.exit 0) bkZ.aa :=
 p9 (P := prog) (X := uK _) (env := []) trivial (n := 0) (os := oL [(122, wF)]) (fb := 0) (rd := false) (c := (qc f4 0)) (k := 122) (I := bkL ps b ((ps.length : Nat) : Int)) (sk := []) (hk := []) (lk := []) (ex := .exit 0)
  (L := bkZ) (by kernel_rfl) (ai (show decide (((ps.length : Nat) : Int) < ((ps.length : Nat) : Int)) = false from decide_eq_false (by omega)) tt0)
theorem Ui (ps : List A1) (b : A2) (hm : ps.length <= 20) : Sound prog 0 false (.loop (qc f4 0)) (bkL ps b 0).aa (.exit 0) bkZ.aa := by
 refine qw (m := fun y : { i : Nat // i <= ps.length } => ps.length - y.val) (fun y => bkL ps b (y.val : Int)) (by simp) (fun y => ?_) ⟨0, by omega⟩
 obtain ⟨i, hi⟩ := y
 by_cases e : i < ps.length
 ·exact .inl ⟨⟨i + 1, e⟩, by show ps.length - (i + 1) < ps.length - i; omega, O3 ps b hm i ps[i] (List.getElem?_eq_getElem e)⟩
 ·have e : i = ps.length := by omega
  subst e
  exact .inr (XW ps b)
theorem CK (gs : List GT) (pub vs : Int) (hg : ∀ g, g ∈ gs -> smG g) : Gives prog 18 [.ags [.z [.l (gsC gs)] gs.length, .c (ci0 pub), .c (ci0 vs)]] (.tp [.v (.string (ofL (cS gs pub vs))), vi0 (cE gs pub vs)]) := by
 by_cases h : cOK gs pub vs
 ·rw [show cS gs pub vs = _ from if_pos h, show cE gs pub vs = 0 from if_pos h]
  exact Zq gs pub vs h.1 h.2.1 hg h.2.2
 ·rw [show cS gs pub vs = [] from if_neg h, show cE gs pub vs = 1 from if_neg h]
  by_cases h1 : tl gs pub vs
  ·by_cases h2 : vs > 2147483647
   ·exact aci gs pub vs h1 h2
   ·rcases C6 gs with h3 | ⟨j, x, h3, h4, h5⟩
    ·exact absurd ⟨h1, h2, h3⟩ h
    ·exact aaq gs pub vs h1 h2 hg j x h3 h4 h5
  ·exact acz gs pub vs h1
def V4 (gs : List GT) : Nat × Ora := (40, { ch := 0, hi := fun _ => gs.length, ex := 6, cs := fun _ => [.l (gsC gs)] })
abbrev VE (ps : List A1) (b : A2) : List XV := [.ags [.z [.l (qt ps)] ps.length, .c (.n 6 b.1.1), .c (.n 6 b.1.2), .c (.n 6 b.2.1.1), .c (.n 6 b.2.1.2), .c (.c (.bool b.2.2))]]
abbrev VU (p : PF) : AV := .tp [.v (.string (ofL (pfS p))), vi0 (vp p)]
abbrev Wn (v : VT) : AV := .tp [.v (.string (ofL (ckS v))), vi0 (rL v)]
abbrev VS (ns : List Nat) : AV := .tp [.v (.string (ofL (wS ns))), vi0 (wE ns)]
def Wa (p : PF) (v : VT) (n0 : List Nat) (ns : List Nat) (g0 : List GT) (gs : List GT) (pub : Int) (vs : Int) (p0 : List A1) (ps : List A1) (b : A2) : LO0 := [(19, lpO { kd := 5, I := bkS p v n0 ns g0 pub vs p0 ps b 0, ex := .normal, E := bkS p v n0 ns g0 pub vs p0 ps b 32767, fr := 34 }), (V4 gs), (44, ov (VU p)), (52, lpO { kd := 1, I := CC p v ns gs pub vs ps b (vp p == 0), ex := .normal, E := Ru v ns gs pub vs ps b, fr := 53 }), (54, ov (Wn v)), (62, lpO { kd := 1, I := CW v ns gs pub vs ps b (rL v == 0), ex := .normal, E := Oq ns gs pub vs ps b, fr := 63 }), (64, ov (VS ns)), (72, lpO { kd := 1, I := BP ns gs pub vs ps b (wE ns == 0), ex := .normal, E := M8 gs pub vs ps b, fr := 73 }), (74, ov (.tp [.v (.string (ofL (cS gs pub vs))), vi0 (cE gs pub vs)])), (82, lpO { kd := 1, I := BS gs pub vs ps b (cE gs pub vs == 0), ex := .normal, E := MD ps b, fr := 83 })]
theorem Rn {a : List XV} {r : AV} {b : Prop} (o : LO0) (hb : b) (h : fnA prog (uK _) [Fa] 1 (oL o) f4 a = some (r, b) := by kernel_rfl) (hv : ∃ v, r.val? = some v := by exact ⟨_, rfl⟩) : Gives prog 4 a r := p6 (P := prog) (X := uK _) (env := [Fa]) ⟨Jr, tt0⟩ func4 1 (oL o) h hv hb
theorem Rw (p : PF) (hp : p.sm) (v : VT) (hv : v.sm) (n0 ns : List Nat) (en : ns = n0.take 70) (hbn : sm4 ns) (g0 gs : List GT) (eg : gs = g0.take 20) (hg : ∀ g, g ∈ gs -> smG g) (pub vs : Int) (p0 ps : List A1) (ep : ps = p0.take 20) (b : A2) (e : Int) (he : e ≠ 0) (hk : Gives prog 20 (VE ps b) (.tp [.v (.string (ofL [])), vi0 e])) : Gives prog 4 [.t (.ag p.ch), .t (.ag v.ch), .rz [.l (numC 4 n0)] n0.length, .ags [.z [.l (gsC g0)] g0.length, .c (ci0 pub), .c (ci0 vs)], .ags [.z [.l (qt p0)] p0.length, .c (.n 6 b.1.1), .c (.n 6 b.1.2), .c (.n 6 b.2.1.1), .c (.n 6 b.2.1.2), .c (.c (.bool b.2.2))]] (.v (.bool true)) :=
 Rn ((Wa p v n0 ns g0 gs pub vs p0 ps b) ++ [(84, ov (.tp [.v (.string (ofL [])), vi0 e])), (91, wT)]) (ai (show (e != 0) = true from by simpa using he) (ai (show qN prog 20 [.ags [.z [.l (qt ps)] ps.length, .c (.n 6 b.1.1), .c (.n 6 b.1.2), .c (.n 6 b.2.1.1), .c (.n 6 b.2.1.2), .c (.c (.bool b.2.2))]] (.tp [.v (.string (ofL [])), vi0 e]) from ⟨fun vs w => Go.Proofs.enters_of (P := prog) func20 (by kernel_rfl) rfl vs w, hk⟩) (ai (show some (BS gs pub vs ps b (cE gs pub vs == 0)) = some (BS gs pub vs ps b (cE gs pub vs == 0)) from rfl) (ai (FE gs pub vs ps b) (ai (show qN prog 18 [.ags [.z [.l (gsC gs)] gs.length, .c (ci0 pub), .c (ci0 vs)]] (.tp [.v (.string (ofL (cS gs pub vs))), vi0 (cE gs pub vs)]) from ⟨fun vs w => Go.Proofs.enters_of (P := prog) func18 (by kernel_rfl) rfl vs w, CK gs pub vs hg⟩) (ai (show some (BP ns gs pub vs ps b (wE ns == 0)) = some (BP ns gs pub vs ps b (wE ns == 0)) from rfl) (ai (GE ns hbn gs pub vs ps b) (ai (show qN prog 16 [.rz [.l (numC 4 ns)] ns.length] (.tp [.v (.string (ofL (wS ns))), vi0 (wE ns)]) from ⟨fun vs w => Go.Proofs.enters_of (P := prog) func16 (by kernel_rfl) rfl vs w, CU ns hbn⟩) (ai (show some (CW v ns gs pub vs ps b (rL v == 0)) = some (CW v ns gs pub vs ps b (rL v == 0)) from rfl) (ai (FV v ns gs pub vs ps b) (ai (show qN prog 15 [.t (.ag v.ch)] (.tp [.v (.string (ofL (ckS v))), vi0 (rL v)]) from ⟨fun vs w => Go.Proofs.enters_of (P := prog) func15 (by kernel_rfl) rfl vs w, Du v hv⟩) (ai (show some (CC p v ns gs pub vs ps b (vp p == 0)) = some (CC p v ns gs pub vs ps b (vp p == 0)) from rfl) (ai (FD p v ns gs pub vs ps b) (ai (show qN prog 14 [.t (.ag p.ch)] (.tp [.v (.string (ofL (pfS p))), vi0 (vp p)]) from ⟨fun vs w => Go.Proofs.enters_of (P := prog) func14 (by kernel_rfl) rfl vs w, Dn p hp⟩) (ai (JU g0 gs eg) (ai (show some (bkS p v n0 ns g0 pub vs p0 ps b 0) = some (bkS p v n0 ns g0 pub vs p0 ps b 0) from rfl) (ai (A8 p v n0 ns g0 pub vs p0 ps b (R7 n0 ns en) (Jh p0 ps ep)) tt0)))))))))))))))))
abbrev Lh (l : LU0) : AV := .tp [.v (.string (ofL l)), vi0 0]
theorem XK (p : PF) (hp : p.sm) (v : VT) (hv : v.sm) (n0 ns : List Nat) (en : ns = n0.take 70) (hbn : sm4 ns) (g0 gs : List GT) (eg : gs = g0.take 20) (hg : ∀ g, g ∈ gs -> smG g) (pub vs : Int) (p0 ps : List A1) (ep : ps = p0.take 20) (b : A2) (hm : ps.length <= 20) (l : LU0) (hk : Gives prog 20 (VE ps b) (Lh l)) (hq : xU prog 10 [.t (.v (.string (ofL l)))] (fun k => .tp [.ag (.sx k ps.length :: pt2 b), vi0 0]) (.gr [.l (qt ps)] 26 13)) : Gives prog 4 [.t (.ag p.ch), .t (.ag v.ch), .rz [.l (numC 4 n0)] n0.length, .ags [.z [.l (gsC g0)] g0.length, .c (ci0 pub), .c (ci0 vs)], .ags [.z [.l (qt p0)] p0.length, .c (.n 6 b.1.1), .c (.n 6 b.1.2), .c (.n 6 b.2.1.1), .c (.n 6 b.2.1.2), .c (.c (.bool b.2.2))]] (.v (.bool true)) :=
 Rn ((Wa p v n0 ns g0 gs pub vs p0 ps b) ++ [(84, ov (Lh l)), (93, { ch := 0, hi := fun _ => 0, ex := 4, av := fun k => .tp [.ag (.sx k ps.length :: pt2 b), vi0 0], lp := some { kd := 9, I := { n := 0, sl := [] }, ex := .normal, E := { n := 0, sl := [], hp := [(0, .gr [.l (qt ps)] 26 13)] }, fr := 0 } }), (116, wF), (122, lpO { I := bkL ps b 0, ex := .exit 0, E := bkZ, fr := 123 })]) (ai (show some (bkL ps b 0) = some (bkL ps b 0) from rfl) (ai (Ui ps b hm) (ai (wZ (a := ((ps.length : Nat) : Int))) (ai (show flat (pt2 b) = flat (pt2 b) from rfl) (ai (hq) (ai (show qN prog 20 [.ags [.z [.l (qt ps)] ps.length, .c (.n 6 b.1.1), .c (.n 6 b.1.2), .c (.n 6 b.2.1.1), .c (.n 6 b.2.1.2), .c (.c (.bool b.2.2))]] (.tp [.v (.string (ofL l)), vi0 0]) from ⟨fun vs w => Go.Proofs.enters_of (P := prog) func20 (by kernel_rfl) rfl vs w, hk⟩) (ai (show some (BS gs pub vs ps b (cE gs pub vs == 0)) = some (BS gs pub vs ps b (cE gs pub vs == 0)) from rfl) (ai (FE gs pub vs ps b) (ai (show qN prog 18 [.ags [.z [.l (gsC gs)] gs.length, .c (ci0 pub), .c (ci0 vs)]] (.tp [.v (.string (ofL (cS gs pub vs))), vi0 (cE gs pub vs)]) from ⟨fun vs w => Go.Proofs.enters_of (P := prog) func18 (by kernel_rfl) rfl vs w, CK gs pub vs hg⟩) (ai (show some (BP ns gs pub vs ps b (wE ns == 0)) = some (BP ns gs pub vs ps b (wE ns == 0)) from rfl) (ai (GE ns hbn gs pub vs ps b) (ai (show qN prog 16 [.rz [.l (numC 4 ns)] ns.length] (.tp [.v (.string (ofL (wS ns))), vi0 (wE ns)]) from ⟨fun vs w => Go.Proofs.enters_of (P := prog) func16 (by kernel_rfl) rfl vs w, CU ns hbn⟩) (ai (show some (CW v ns gs pub vs ps b (rL v == 0)) = some (CW v ns gs pub vs ps b (rL v == 0)) from rfl) (ai (FV v ns gs pub vs ps b) (ai (show qN prog 15 [.t (.ag v.ch)] (.tp [.v (.string (ofL (ckS v))), vi0 (rL v)]) from ⟨fun vs w => Go.Proofs.enters_of (P := prog) func15 (by kernel_rfl) rfl vs w, Du v hv⟩) (ai (show some (CC p v ns gs pub vs ps b (vp p == 0)) = some (CC p v ns gs pub vs ps b (vp p == 0)) from rfl) (ai (FD p v ns gs pub vs ps b) (ai (show qN prog 14 [.t (.ag p.ch)] (.tp [.v (.string (ofL (pfS p))), vi0 (vp p)]) from ⟨fun vs w => Go.Proofs.enters_of (P := prog) func14 (by kernel_rfl) rfl vs w, Dn p hp⟩) (ai (JU g0 gs eg) (ai (show some (bkS p v n0 ns g0 pub vs p0 ps b 0) = some (bkS p v n0 ns g0 pub vs p0 ps b 0) from rfl) (ai (A8 p v n0 ns g0 pub vs p0 ps b (R7 n0 ns en) (Jh p0 ps ep)) tt0)))))))))))))))))))))
theorem Xl (p : PF) (hp : p.sm) (v : VT) (hv : v.sm) (n0 ns : List Nat) (en : ns = n0.take 70) (hbn : sm4 ns) (g0 gs : List GT) (eg : gs = g0.take 20) (hg : ∀ g, g ∈ gs -> smG g) (pub vs : Int) (p0 : List A1) (ep : [] = p0.take 20) (b : A2) (l : LU0) (hk : Gives prog 20 [.ags [.z [.l (qt [])] 0, .c (.n 6 b.1.1), .c (.n 6 b.1.2), .c (.n 6 b.2.1.1), .c (.n 6 b.2.1.2), .c (.c (.bool b.2.2))]] (Lh l)) (hq : Gives prog 10 [.t (.v (.string (ofL l)))] (.tp [.ag (.c (.slice none 0 0) :: pt2 b), vi0 0])) : Gives prog 4 [.t (.ag p.ch), .t (.ag v.ch), .rz [.l (numC 4 n0)] n0.length, .ags [.z [.l (gsC g0)] g0.length, .c (ci0 pub), .c (ci0 vs)], .ags [.z [.l (qt p0)] p0.length, .c (.n 6 b.1.1), .c (.n 6 b.1.2), .c (.n 6 b.2.1.1), .c (.n 6 b.2.1.2), .c (.c (.bool b.2.2))]] (.v (.bool true)) :=
 Rn [(19, lpO { kd := 5, I := bkS p v n0 ns g0 pub vs p0 [] b 0, ex := .normal, E := bkS p v n0 ns g0 pub vs p0 [] b 32767, fr := 34 }), (V4 gs), (44, ov (VU p)), (52, lpO { kd := 1, I := CC p v ns gs pub vs [] b (vp p == 0), ex := .normal, E := Ru v ns gs pub vs [] b, fr := 53 }), (54, ov (Wn v)), (62, lpO { kd := 1, I := CW v ns gs pub vs [] b (rL v == 0), ex := .normal, E := Oq ns gs pub vs [] b, fr := 63 }), (64, ov (VS ns)), (72, lpO { kd := 1, I := BP ns gs pub vs [] b (wE ns == 0), ex := .normal, E := M8 gs pub vs [] b, fr := 73 }), (74, ov (.tp [.v (.string (ofL (cS gs pub vs))), vi0 (cE gs pub vs)])), (82, lpO { kd := 1, I := BS gs pub vs [] b (cE gs pub vs == 0), ex := .normal, E := MD [] b, fr := 83 }), (84, ov (Lh l)), (93, ov (.tp [.ag (.c (.slice none 0 0) :: pt2 b), vi0 0]))] (ai (show flat (pt2 b) = flat (pt2 b) from rfl) (ai (show qN prog 10 [.t (.v (.string (ofL l)))] (.tp [.ag (.c (.slice none 0 0) :: pt2 b), vi0 0]) from ⟨fun vs w => Go.Proofs.enters_of (P := prog) func10 (by kernel_rfl) rfl vs w, hq⟩) (ai (show qN prog 20 [.ags [.z [.l (qt [])] 0, .c (.n 6 b.1.1), .c (.n 6 b.1.2), .c (.n 6 b.2.1.1), .c (.n 6 b.2.1.2), .c (.c (.bool b.2.2))]] (.tp [.v (.string (ofL l)), vi0 0]) from ⟨fun vs w => Go.Proofs.enters_of (P := prog) func20 (by kernel_rfl) rfl vs w, hk⟩) (ai (show some (BS gs pub vs [] b (cE gs pub vs == 0)) = some (BS gs pub vs [] b (cE gs pub vs == 0)) from rfl) (ai (FE gs pub vs [] b) (ai (show qN prog 18 [.ags [.z [.l (gsC gs)] gs.length, .c (ci0 pub), .c (ci0 vs)]] (.tp [.v (.string (ofL (cS gs pub vs))), vi0 (cE gs pub vs)]) from ⟨fun vs w => Go.Proofs.enters_of (P := prog) func18 (by kernel_rfl) rfl vs w, CK gs pub vs hg⟩) (ai (show some (BP ns gs pub vs [] b (wE ns == 0)) = some (BP ns gs pub vs [] b (wE ns == 0)) from rfl) (ai (GE ns hbn gs pub vs [] b) (ai (show qN prog 16 [.rz [.l (numC 4 ns)] ns.length] (.tp [.v (.string (ofL (wS ns))), vi0 (wE ns)]) from ⟨fun vs w => Go.Proofs.enters_of (P := prog) func16 (by kernel_rfl) rfl vs w, CU ns hbn⟩) (ai (show some (CW v ns gs pub vs [] b (rL v == 0)) = some (CW v ns gs pub vs [] b (rL v == 0)) from rfl) (ai (FV v ns gs pub vs [] b) (ai (show qN prog 15 [.t (.ag v.ch)] (.tp [.v (.string (ofL (ckS v))), vi0 (rL v)]) from ⟨fun vs w => Go.Proofs.enters_of (P := prog) func15 (by kernel_rfl) rfl vs w, Du v hv⟩) (ai (show some (CC p v ns gs pub vs [] b (vp p == 0)) = some (CC p v ns gs pub vs [] b (vp p == 0)) from rfl) (ai (FD p v ns gs pub vs [] b) (ai (show qN prog 14 [.t (.ag p.ch)] (.tp [.v (.string (ofL (pfS p))), vi0 (vp p)]) from ⟨fun vs w => Go.Proofs.enters_of (P := prog) func14 (by kernel_rfl) rfl vs w, Dn p hp⟩) (ai (JU g0 gs eg) (ai (show some (bkS p v n0 ns g0 pub vs p0 [] b 0) = some (bkS p v n0 ns g0 pub vs p0 [] b 0) from rfl) (ai (A8 p v n0 ns g0 pub vs p0 [] b (R7 n0 ns en) (Jh p0 [] ep)) tt0))))))))))))))))))
end Go.Proofs.YtokjhbmmdmeafaaGreat
set_option linter.unusedSimpArgs false
set_option linter.unusedVariables false
namespace Go.Proofs.YtokjhbmmdmeafaaGreat
open Go.Ev Go.RowKit
open Tryz
theorem As (p : PF) (hp : p.sm) (v : VT) (hv : v.sm) (n0 : List Nat) (hbn : sm4 n0) (g0 : List GT) (hg : ∀ g, g ∈ g0 -> smG g) (pub vs : Int) (p0 : List A1) (hps : wB p0) (b : A2) (hb : sml2 b) : Gives prog 4 [.t (.ag p.ch), .t (.ag v.ch), .rz [.l (numC 4 n0)] n0.length, .ags [.z [.l (gsC g0)] g0.length, .c (ci0 pub), .c (ci0 vs)], .ags [.z [.l (qt p0)] p0.length, .c (.n 6 b.1.1), .c (.n 6 b.1.2), .c (.n 6 b.2.1.1), .c (.n 6 b.2.1.2), .c (.c (.bool b.2.2))]] (.v (.bool true)) := by
 have hbn' : sm4 (n0.take 70) := fun x hx => hbn x (List.mem_of_mem_take hx)
 have hg' : ∀ g, g ∈ g0.take 20 -> smG g := fun x hx => hg x (List.mem_of_mem_take hx)
 have hps' : wB (p0.take 20) := fun x hx => hps x (List.mem_of_mem_take hx)
 have hl : (p0.take 20).length <= 20 := by rw [List.length_take]; omega
 generalize ep : p0.take 20 = ps at hps' hl
 by_cases h1 : ptE ps = 0
 ·by_cases h2 : p2E b = 0
  ·obtain ⟨k0, k1, k2, k3, k4, k5, k6, k7, k8, k9⟩ := YE ps b (by omega) h1 h2 _ rfl
   rcases Nat.eq_zero_or_pos ps.length with hz | hz
   ·have hn : ps = [] := List.length_eq_zero_iff.1 hz
    subst hn
    have hk := Sj [] b (by decide) hps' hb h1 h2
    have hR : ((qV [] 0 ++ p2S b).drop 4).drop 4 = p2S b := congrArg Prod.snd k5
    have hq := NL (qV [] 0 ++ p2S b) 0 k3 k0 k1 k2 (by decide) k4 rfl (by rw [hR, k7]; exact k8)
    rw [hR, k7, k9] at hq
    exact Xl p hp v hv n0 _ rfl hbn' g0 _ rfl hg' pub vs p0 ep.symm b _ hk hq
   ·have hk := Sj ps b (by omega) hps' hb h1 h2
    have hq := Mh (qV ps ps.length ++ p2S b) ps.length k3 k0 k1 k2 (by omega) k4 hz (p2S b) k5 (by rw [k7]; exact k8)
    rw [k7, k9, k6] at hq
    exact XK p hp v hv n0 _ rfl hbn' g0 _ rfl hg' pub vs p0 ps ep.symm b hl _ hk hq
  ·exact Rw p hp v hv n0 _ rfl hbn' g0 _ rfl hg' pub vs p0 ps ep.symm b _ h2 (XH ps b (by omega) hps' hb h1 h2)
 ·exact Rw p hp v hv n0 _ rfl hbn' g0 _ rfl hg' pub vs p0 ps ep.symm b _ h1 (Yt ps b (by omega) hps' hb h1)
end Go.Proofs.YtokjhbmmdmeafaaGreat
