/- Pruned: Gu. -/
import Derived.Test.YtokjhbmmdmeafaaGreatQGg
import Derived.Test.YtokjhbmmdmeafaaGreatQGf
import Derived.Test.YtokjhbmmdmeafaaGreatQGj
import Derived.Test.YtokjhbmmdmeafaaGreatQGm
import Derived.Test.YtokjhbmmdmeafaaGreatQGo
import Derived.Test.YtokjhbmmdmeafaaGreatQGt
set_option linter.unusedSimpArgs false
set_option linter.unusedVariables false
namespace Go.Proofs.YtokjhbmmdmeafaaGreat
open Go.Ev Go.RowKit
open Tryz
theorem WH  : Gives prog 16 [.t (.v (.slice none 0 0))] (.tp [.v (.string (ofL (pubB [] 0))), vi0 0]) :=
 pL (P := prog) (X := pN _) (env := [uM, wR]) ⟨te, sU, tt0⟩ func16 8 (oL [(30, { ch := 0, hi := fun _ => 0, ex := 2, cs := fun _ => [.y mgW] })]) (by kernel_rfl) ⟨_, rfl⟩ (ai (show flat [.y mgW] = (ofL mgW).data.toList.map qK from rp mgW) tt0)
theorem V2 (b : A2) (hb : sml2 b) (h2 : p2E b = 0) : Gives prog 20 [.t (.ag (.c (.slice none 0 0) :: [.n 6 b.1.1, .n 6 b.1.2, .n 6 b.2.1.1, .n 6 b.2.1.2, .c (.bool b.2.2)]))] (.tp [.v (.string (ofL (qG [] 0 ++ p2S b))), vi0 0]) :=
 pL (P := prog) (X := pN _) (env := [tK, zm, wR]) ⟨tg, yC, sU, tt0⟩ func20 3 (oL [(10, { ch := 0, hi := fun _ => 0, ex := 2, cs := fun _ => [.y mgK] }), (50, wO 0), (58, wT), (70, { ch := 0, hi := fun _ => 0, ex := 1 }), (82, wF), (87, { ch := 0, hi := fun _ => 0, ru := 10, av := fun _ => .v (.string (ofL ((qG [] 0 ++ p2S b)))) })]) (by kernel_rfl) ⟨_, rfl⟩ (ai (show (flat [.y (qG [] 0), .y (p2S b)]).take ((qG [] 0).length + (ofL (p2S b)).size) = (ofL (qG [] 0 ++ p2S b)).data.toList.map qK /\ (qG [] 0).length + (ofL (p2S b)).size = (ofL (qG [] 0 ++ p2S b)).size from Qv _ _) (ai (show (p2E b != 0) = false from by rw [h2]; rfl) (ai (show qd [.y (qG [] 0)] = (qG [] 0).length * 1 /\ (qG [] 0).length + (ofL (p2S b)).size <= 9223372036854775807 /\ ((qG [] 0).length + (ofL (p2S b)).size) * 1 <= 140737488355328 /\ True from by
    have h1 : (qG [] 0).length = 8 := rfl
    have h2 : (ofL (p2S b)).size <= 96 := FJ b
    refine ⟨?_, ?_, ?_, tt0⟩ <;> (try simp only [qd, Ch.size]) <;> omega) (ai (show ((0 : Int) == 0) = true from rfl) (ai (show sml2 b from hb) (ai (show flat [.y mgK] = (ofL mgK).data.toList.map qK from rp mgK) tt0))))))
theorem aaH (pub vs : Int) (h1 : 0 <= pub) (h2 : pub <= 0) (h3 : 0 <= vs) : Gives prog 36 [.t (.ag [.c (.slice none 0 0), ci0 pub, ci0 vs])] (.v (.bool true)) :=
 pL (P := prog) (X := pN _) (env := []) trivial func36 5 (oL [(9, wF), (17, wF), (22, wF)]) (by kernel_rfl) ⟨_, rfl⟩ (ai (show decide (vs < 0) = false from decide_eq_false (by omega)) (ai (show decide (pub > 0) = false from decide_eq_false (by omega)) (ai (show decide (pub < 0) = false from decide_eq_false (by omega)) tt0)))
theorem aeg (pub vs : Int) (h1 : 0 <= pub) (h2 : pub <= 0) (h3 : 0 <= vs) (h4 : ¬ vs > 2147483647) : Gives prog 18 [.t (.ag [.c (.slice none 0 0), ci0 pub, ci0 vs])] (.tp [.v (.string (ofL (mgC ++ hdU [] pub vs))), vi0 0]) :=
 pL (P := prog) (X := pN _) (env := [vA, uM, wR]) ⟨u7, te, sU, tt0⟩ func18 1 (oL [(4, { ch := 0, hi := fun _ => 0, ex := 7, av := fun _ => .v (.bool true) }), (9, wF), (14, { ch := 0, hi := fun _ => 0, ex := 2, cs := fun _ => [.y mgC] }), (29, rO 6 0), (34, rO 6 0)]) (by kernel_rfl) ⟨_, rfl⟩ (ai (show (ofL (b4 .u32 (IntKind.u32.wrap (0 : Nat)) ++ b4 .u32 (IntKind.u32.wrap pub))).size + (ofL (b4 .u32 (IntKind.u32.wrap vs))).size <= 9223372036854775807 from by rw [vP]; show 8 + 4 <= _; decide) (ai (show (ofL (b4 .u32 (IntKind.u32.wrap (0 : Nat)))).size + (ofL (b4 .u32 (IntKind.u32.wrap pub))).size <= 9223372036854775807 from by rw [vP, vP]; decide) (ai (show flat [.y mgC] = (ofL mgC).data.toList.map qK from rp mgC) (ai (show decide (vs > 2147483647) = false from decide_eq_false h4) (ai (show rP prog 36 [.t (.ag [.c (.slice none 0 0), ci0 pub, ci0 vs])] (.v (.bool true)) from ⟨fun vs w => Go.Proofs.enters_of (P := prog) func36 (by kernel_rfl) rfl vs w, aaH pub vs h1 h2 h3⟩) tt0)))))
theorem Zc (pub vs : Int) (h1 : 0 <= pub) (h2 : pub <= 0) (h3 : 0 <= vs) (h4 : ¬ vs > 2147483647) : Gives prog 18 [.t (.ag [.c (.slice none 0 0), ci0 pub, ci0 vs])] (.tp [.v (.string (ofL (outC [] pub vs 0))), vi0 0]) := by
 have h := aeg pub vs h1 h2 h3 h4
 rw [J8] at h
 rw [show outC [] pub vs 0 = mgC ++ hdC [] pub vs from List.append_nil _]
 exact h
theorem Vt (pub vs : Int) (h1 : 0 <= pub) (h2 : pub <= 0) (h3 : 0 <= vs) : Gives prog 23 [.t (.ag [.c (.slice none 0 0), ci0 pub, ci0 vs])] (.v (.bool true)) :=
 pL (P := prog) (X := pN _) (env := []) trivial func23 1 (oL [(14, wT), (22, wT), (27, wT)]) (by kernel_rfl) ⟨_, rfl⟩ (ai (show decide (vs >= 0) = true from decide_eq_true h3) (ai (show decide (pub <= 0) = true from decide_eq_true h2) (ai (show decide (pub >= 0) = true from decide_eq_true h1) tt0)))
end Go.Proofs.YtokjhbmmdmeafaaGreat
set_option linter.unusedSimpArgs false
set_option linter.unusedVariables false
namespace Go.Proofs.YtokjhbmmdmeafaaGreat
open Go.Ev Go.RowKit
open Tryz
theorem uz (x : Fin Pp) : small x.val := Nat.lt_trans x.isLt (by decide)
def okp (a : A1) : Prop := p1E a = 0 /\ sml1 a
theorem V3 {c : LU0} (hl : c.length = 48) (h : g1E c = 0) : p1S (g1V c) = c /\ okp (g1V c) := by
 have ho : ok1 c := by
  rcases zD c with ⟨h1, _⟩ | ⟨_, h2⟩
  ·exact h1
  ·exact absurd h h2.1
 obtain ⟨m, g, _, e⟩ := XN c ho
 rw [show g1V c = ((gx1 c).val, (gy1 c).val, decide (th c)) from if_pos ho]
 rw [decide_eq_true hl] at e
 refine ⟨?_, ?_, uz _, uz _⟩
 ·rw [show p1S ((gx1 c).val, (gy1 c).val, decide (th c)) = zP (ofP (gx1 c).val) (ofP (gy1 c).val) (decide (th c)) true from if_pos ⟨m, g⟩, wx, wx]
  exact e
 ·exact (if_pos m).trans (if_pos g)
theorem LU {c : LU0} (hl : c.length = 96) (h : g2E c = 0) : p2S (g2V c) = c /\ p2E (g2V c) = 0 /\ sml2 (g2V c) := by
 have ho : ok2 c := by
  rcases Cx c with ⟨h1, _⟩ | ⟨_, h2⟩
  ·exact h1
  ·exact absurd h h2.1
 obtain ⟨m, g, _, e⟩ := Xx c ho
 rw [show g2V c = (nn (gx2 c), nn (gy2 c), decide (ti c)) from if_pos ho]
 rw [decide_eq_true hl] at e
 refine ⟨?_, ?_, ⟨uz _, uz _⟩, ⟨uz _, uz _⟩⟩
 ·rw [show p2S (nn (gx2 c), nn (gy2 c), decide (ti c)) = z3 (of2 (nn (gx2 c))) (of2 (nn (gy2 c))) (decide (ti c)) true from if_pos ⟨m, g⟩, XD, XD]
  exact e
 ·exact (if_pos m).trans (if_pos g)
theorem Pk {c : LU0} (h : g1E c = 0) : may1 (g1V c) /\ q7 (g1V c) := by
 have ho : ok1 c := by
  rcases zD c with ⟨h1, _⟩ | ⟨_, h2⟩
  ·exact h1
  ·exact absurd h h2.1
 obtain ⟨m, g, _, e⟩ := XN c ho
 rw [show g1V c = ((gx1 c).val, (gy1 c).val, decide (th c)) from if_pos ho]
 exact ⟨m, g⟩
theorem aaJ {c : LU0} (h : g2E c = 0) : may2 (g2V c) /\ q6 (g2V c) := by
 have ho : ok2 c := by
  rcases Cx c with ⟨h1, _⟩ | ⟨_, h2⟩
  ·exact h1
  ·exact absurd h h2.1
 obtain ⟨m, g, _, e⟩ := Xx c ho
 rw [show g2V c = (nn (gx2 c), nn (gy2 c), decide (ti c)) from if_pos ho]
 exact ⟨m, g⟩
theorem Uw {c : LU0} (hl : c.length = 32) (h : gfE c = 0) : qL (gfV c) = c /\ gfV c < Rr := by
 have hd : deN 32 c < Rr := by
  by_cases hd : deN 32 c < Rr
  ·exact hd
  ·rw [show gfE c = 20 from (if_pos hl).trans (if_neg hd)] at h; exact absurd h (by decide)
 rw [show gfV c = deN 32 c from (if_pos hl).trans (if_pos hd)]
 refine ⟨?_, hd⟩
 show beL 32 (deN 32 c % Rr) = c
 rw [Nat.mod_eq_of_lt hd]
 exact Xz hl
theorem AL {α : Type} {sz : Nat} {E : LU0 -> Int} {V : LU0 -> α} {z : α} {put : α -> LU0} {ok : α -> Prop} (hp : ∀ c : LU0, c.length = sz -> E c = 0 -> put (V c) = c /\ ok (V c)) (l : LU0) : ∀ n, (nst sz E n (0, l)).1 = 0 -> sz * n <= l.length -> ((List.range n).map fun j => rvl sz V z (nst sz E j (0, l))).flatMap put = l.take (sz * n) /\ ∀ a, a ∈ ((List.range n).map fun j => rvl sz V z (nst sz E j (0, l))) -> ok a
 | 0, _, _ => ⟨by simp, fun a h => by simp at h⟩
 | n + 1, h, hl => by
  have hl' : sz * n + sz <= l.length := by rw [← Nat.mul_succ]; exact hl
  obtain ⟨_, _, hE⟩ := qh (n + 1) (0, l) h
  have hE : ∀ i, i < n + 1 -> E (chk sz l i) = 0 := hE
  have e0 : nst sz E n (0, l) = (0, l.drop (sz * n)) := zG n (fun i hi => hE i (by omega))
  obtain ⟨h1, h2⟩ := AL hp l n (by rw [e0]) (by omega)
  have hv : rvl sz V z (nst sz E n (0, l)) = V (chk sz l n) := by rw [e0]; rfl
  have hc : (chk sz l n).length = sz := by unfold chk; rw [List.length_take, List.length_drop]; omega
  obtain ⟨p1, p2⟩ := hp _ hc (hE n (by omega))
  rw [List.range_succ, List.map_append, List.flatMap_append, h1]
  refine ⟨?_, ?_⟩
  ·simp only [List.map_cons, List.map_nil, List.flatMap_cons, List.flatMap_nil, List.append_nil]
   rw [hv, p1, Nat.mul_succ, List.take_add]; rfl
  ·intro a ha
   rcases List.mem_append.1 ha with ha | ha
   ·exact h2 a ha
   ·simp only [List.map_cons, List.map_nil, List.mem_singleton] at ha
    rw [ha, hv]; exact p2
theorem zE (l : LU0) (n : Nat) (h : (nst 48 g1E n (0, l)).1 = 0) (hl : 48 * n <= l.length) : rU ((List.range n).map fun j => rvl 48 g1V p1z (nst 48 g1E j (0, l))) = l.take (48 * n) /\ ∀ a, a ∈ ((List.range n).map fun j => rvl 48 g1V p1z (nst 48 g1E j (0, l))) -> okp a :=
 AL (sz := 48) (E := g1E) (V := g1V) (z := p1z) (put := p1S) (ok := okp) (fun c hl h => V3 hl h) l n h hl
theorem AT (l : LU0) (n : Nat) (h : (nst 32 gfE n (0, l)).1 = 0) (hl : 32 * n <= l.length) : yh ((List.range n).map fun j => rvl 32 gfV 0 (nst 32 gfE j (0, l))) = l.take (32 * n) /\ ∀ a, a ∈ ((List.range n).map fun j => rvl 32 gfV 0 (nst 32 gfE j (0, l))) -> a < Rr :=
 AL (sz := 32) (E := gfE) (V := gfV) (z := 0) (put := qL) (ok := fun n => n < Rr) (fun c hl h => Uw hl h) l n h hl
theorem GD : ∀ {ps : List A1}, (∀ a, a ∈ ps -> okp a) -> ptE ps = 0
 | [], _ => rfl
 | a :: l, h => by
  show (if p1E a = 0 then ptE l else p1E a) = 0
  rw [if_pos (h a (List.mem_cons_self ..)).1]
  exact GD fun b hb => h b (List.mem_cons_of_mem _ hb)
theorem Rc {ns : List Nat} (h : ∀ a, a ∈ ns -> a < Rr) : sm4 ns := fun n hn => Nat.lt_trans (h n hn) (by decide)
theorem IX {l : LU0} {n : Nat} (h : l.length = n) : l.take n = l := List.take_of_length_le (by omega)
theorem Zy (l : LU0) (h : zh l = 0) : Ox (gpR l) = 0 /\ pfS (gpR l) = l /\ (gpR l).sm := by
 have hm : l.take 4 = mgP := by
  by_cases hm : l.take 4 = mgP
  ·exact hm
  ·rw [show zh l = 80 from if_neg hm] at h; exact absurd h (by decide)
 have hn : l.length = 628 := by
  by_cases hn : l.length = 628
  ·exact hn
  ·rw [show zh l = 3 from (if_pos hm).trans (if_neg hn)] at h; exact absurd h (by decide)
 have hg : (tt (0, l.drop 4)).1 = 0 := (show zh l = (tt (0, l.drop 4)).1 from (if_pos hm).trans (if_pos hn)).symm.trans h
 have hR : gpR l = wX (0, l.drop 4) := rfl
 have hx : (l.drop 4).length = 624 := by rw [List.length_drop]; omega
 have hj : l.take 4 ++ l.drop 4 = l := List.take_append_drop 4 l
 rw [hR]
 generalize l.drop 4 = x at hg hx hj
 obtain ⟨h1, _, _⟩ := qh 6 (nst 48 g1E 9 (0, x)) hg
 have hst : nst 48 g1E 9 (0, x) = (0, x.drop (48 * 9)) := (qh 9 (0, x) h1).2.1
 obtain ⟨q1, q2⟩ := zE x 9 h1 (by omega)
 have hg' : (nst 32 gfE 6 (0, x.drop (48 * 9))).1 = 0 := by rw [← hst]; exact hg
 obtain ⟨r1, r2⟩ := AT (x.drop (48 * 9)) 6 hg' (by rw [List.length_drop]; omega)
 have hp : (wX (0, x)).pts = (List.range 9).map fun j => rvl 48 g1V p1z (nst 48 g1E j (0, x)) := rfl
 have hq : (wX (0, x)).nums = (List.range 6).map fun j => rvl 32 gfV 0 (nst 32 gfE j (0, x.drop (48 * 9))) := by
  rw [← hst]; rfl
 rw [← hp] at q1 q2
 rw [← hq] at r1 r2
 have hE : Ox (wX (0, x)) = 0 := (if_pos (show rB _ from r2)).trans (GD q2)
 refine ⟨hE, ?_, fun a ha => (q2 a ha).2, Rc r2⟩
 rw [show pfS (wX (0, x)) = (mgP ++ rU (wX (0, x)).pts) ++ yh (wX (0, x)).nums from if_pos hE, q1, r1, IX (l := x.drop (48 * 9)) (n := 32 * 6) (by rw [List.length_drop]; omega), List.append_assoc, List.take_append_drop, ← hm, hj]
theorem aa4 (l : LU0) (h : zo l = 0) : tN (gcR l) = 0 /\ ckS (gcR l) = l /\ (gcR l).sm /\ may1 (gcR l).s2 /\ q7 (gcR l).s2 /\ may2 (gcR l).b /\ q6 (gcR l).b := by
 have hm : l.take 4 = mgV := by
  by_cases hm : l.take 4 = mgV
  ·exact hm
  ·rw [show zo l = 80 from if_neg hm] at h; exact absurd h (by decide)
 have hn : l.length = 486 := by
  by_cases hn : l.length = 486
  ·exact hn
  ·rw [show zo l = 3 from (if_pos hm).trans (if_neg hn)] at h; exact absurd h (by decide)
 have hg : (rst 96 g2E (qs (0, ((l.drop 4).drop 1).drop 1))).1 = 0 := (show zo l = (rst 96 g2E (qs (0, ((l.drop 4).drop 1).drop 1))).1 from (if_pos hm).trans (if_pos hn)).symm.trans h
 have hR : gcR l = { Cf ((cn ((l.drop 4).take 1) 0 : Nat) : Int) ((cn (((l.drop 4).drop 1).take 1) 0 : Nat) : Int) (0, (((l.drop 4).drop 1).drop 1)) with b := g2V ((qs (0, (((l.drop 4).drop 1).drop 1))).2.take 96) } := rfl
 have hj : l.take 4 ++ l.drop 4 = l := List.take_append_drop 4 l
 have hy : (l.drop 4).length = 482 := by rw [List.length_drop]; omega
 rw [hR]
 generalize l.drop 4 = y at hg hj hy
 match y, hy with
 | b0 :: b1 :: x, hy =>
 have hx : x.length = 480 := by simpa using hy
 have e0 : (((b0 :: b1 :: x).drop 1).drop 1) = x := rfl
 rw [e0] at hg ⊢
 have k8 : (qs (0, x)).1 = 0 := by
  by_cases k : (qs (0, x)).1 = 0
  ·exact k
  ·rw [yI k] at hg; exact hg
 obtain ⟨h5, s3, _⟩ := qh 3 (nst 48 g1E 5 (0, x)) k8
 have s5 : nst 48 g1E 5 (0, x) = (0, x.drop (48 * 5)) := (qh 5 (0, x) h5).2.1
 have s8 : qs (0, x) = (0, (x.drop (48 * 5)).drop (48 * 3)) := by
  show nst 48 g1E 3 (nst 48 g1E 5 (0, x)) = _
  rw [s3, s5]
 have k8' : (nst 48 g1E 3 (0, x.drop (48 * 5))).1 = 0 := by rw [← s5]; exact k8
 rw [s8] at hg
 have hg : g2E (((x.drop (48 * 5)).drop (48 * 3)).take 96) = 0 := hg
 have l8 : ((x.drop (48 * 5)).drop (48 * 3)).length = 96 := by rw [List.length_drop, List.length_drop]; omega
 rw [IX l8] at hg
 obtain ⟨q1, q2⟩ := zE x 5 h5 (by omega)
 obtain ⟨r1, r2⟩ := zE (x.drop (48 * 5)) 3 k8' (by rw [List.length_drop]; omega)
 obtain ⟨u1, u2, u3⟩ := LU l8 hg
 obtain ⟨u4, u5⟩ := aaJ hg
 have hw : ∀ (a b : Int), ({ Cf a b (0, x) with b := g2V ((qs (0, x)).2.take 96) } : VT) = { Cf a b (0, x) with b := g2V ((x.drop (48 * 5)).drop (48 * 3)) } := fun a b => by rw [s8, IX l8]
 rw [hw]
 have hq : ∀ (a b : Int) (c : A2), ({ Cf a b (0, x) with b := c } : VT).pts = ((List.range 5).map fun j => rvl 48 g1V p1z (nst 48 g1E j (0, x))) ++ ((List.range 3).map fun j => rvl 48 g1V p1z (nst 48 g1E j (0, x.drop (48 * 5)))) := fun a b c => by
  rw [← s5]; rfl
 generalize hV : ({ Cf ((cn ((b0 :: b1 :: x).take 1) 0 : Nat) : Int) ((cn (((b0 :: b1 :: x).drop 1).take 1) 0 : Nat) : Int) (0, x) with b := g2V ((x.drop (48 * 5)).drop (48 * 3)) } : VT) = v
 have vp : v.pts = ((List.range 5).map fun j => rvl 48 g1V p1z (nst 48 g1E j (0, x))) ++ ((List.range 3).map fun j => rvl 48 g1V p1z (nst 48 g1E j (0, x.drop (48 * 5)))) := by rw [← hV]; exact hq _ _ _
 have vb : v.b = g2V ((x.drop (48 * 5)).drop (48 * 3)) := by rw [← hV]
 have vl : v.l = ((b0.toNat : Nat) : Int) := by rw [← hV]; rfl
 have vq : v.p = ((b1.toNat : Nat) : Int) := by rw [← hV]; rfl
 have vs : v.s2 = rvl 48 g1V p1z (nst 48 g1E 2 (0, x.drop (48 * 5))) := by rw [← hV, ← s5]; rfl
 have hokp : ∀ a, a ∈ v.pts -> okp a := fun a ha => by
  rw [vp] at ha
  rcases List.mem_append.1 ha with ha | ha
  ·exact q2 a ha
  ·exact r2 a ha
 have hok : Oo v := by
  have t0 : b0.toNat < 256 := b0.toNat_lt
  have t1 : b1.toNat < 256 := b1.toNat_lt
  unfold Oo
  rw [vl, vq]
  omega
 have hE : tN v = 0 := by
  rw [show tN v = (if ptE v.pts = 0 then p2E v.b else ptE v.pts) from if_pos hok, if_pos (GD hokp), vb]
  exact u2
 have hO : spO v = [b0, b1] := by
  have t0 : b0.toNat < 256 := b0.toNat_lt
  have t1 : b1.toNat < 256 := b1.toNat_lt
  unfold spO
  rw [vl, vq, xD, xD, show ((b0.toNat : Nat) : Int) % 256 = ((b0.toNat : Nat) : Int) by omega, show ((b1.toNat : Nat) : Int) % 256 = ((b1.toNat : Nat) : Int) by omega, Int.toNat_natCast, Int.toNat_natCast, UInt8.ofNat_toNat, UInt8.ofNat_toNat]
 have hs2 : g1E (chk 48 (x.drop (48 * 5)) 2) = 0 := (qh 3 (0, x.drop (48 * 5)) k8').2.2 2 (by decide)
 have vs' : v.s2 = g1V (chk 48 (x.drop (48 * 5)) 2) := by
  rw [vs, zG 2 (fun i hi => (qh 3 (0, x.drop (48 * 5)) k8').2.2 i (by omega))]; rfl
 refine ⟨hE, ?_, ⟨fun a ha => (hokp a ha).2, by rw [vb]; exact u3⟩, ?_, ?_, ?_, ?_⟩
 ·rw [show ckS v = mgV ++ spS v from if_pos hE, show spS v = spO v ++ rU v.pts ++ p2S v.b from if_pos hE, hO, vp, vb, u1]
  have e1 : ∀ a b : List A1, rU (a ++ b) = rU a ++ rU b := fun a b => by simp [rU]
  rw [e1, q1, r1, ← hm, ← hj]
  simp only [List.append_assoc, List.cons_append, List.nil_append, List.take_append_drop]
  rw [show List.take 4 (List.take 4 l ++ b0 :: b1 :: x) = List.take 4 l from by rw [hj]]
 ·rw [vs']; exact (Pk hs2).1
 ·rw [vs']; exact (Pk hs2).2
 ·rw [vb]; exact u4
 ·rw [vb]; exact u5
end Go.Proofs.YtokjhbmmdmeafaaGreat
set_option linter.unusedSimpArgs false
set_option linter.unusedVariables false
namespace Go.Proofs.YtokjhbmmdmeafaaGreat
open Go.Ev Go.RowKit
open Tryz
theorem four (y : LU0) (h : 4 <= y.length) : ∃ a b c d r, y = a :: b :: c :: d :: r := by
 match y, h with
 | a :: b :: c :: d :: r, _ => exact ⟨a, b, c, d, r, rfl⟩
theorem Zt (n : Nat) : b4 .i64 (n : Int) = [UInt8.ofNat (n / 16777216 % 256), UInt8.ofNat (n / 65536 % 256), UInt8.ofNat (n / 256 % 256), UInt8.ofNat (n % 256)] := by
 have e : ∀ k : Nat, (UInt8.ofNat (IntKind.u8.wrap (((n : Nat) : Int).fdiv ((k : Nat) : Int))).toNat) = UInt8.ofNat (n / k % 256) := fun k => by
  rw [xD, Int.fdiv_eq_ediv_of_nonneg _ (by omega), ← Int.natCast_ediv, show ((n / k : Nat) : Int) % 256 = ((n / k % 256 : Nat) : Int) by omega, Int.toNat_natCast]
 have e1 := e 16777216
 have e2 := e 65536
 have e3 := e 256
 have e0 : UInt8.ofNat (IntKind.u8.wrap ((n : Nat) : Int)).toNat = UInt8.ofNat (n % 256) := by
  rw [xD, show ((n : Nat) : Int) % 256 = ((n % 256 : Nat) : Int) by omega, Int.toNat_natCast]
 show [UInt8.ofNat (IntKind.u8.wrap (((n : Nat) : Int).fdiv (2 ^ min 24 IntKind.i64.bits))).toNat, UInt8.ofNat (IntKind.u8.wrap (((n : Nat) : Int).fdiv (2 ^ min 16 IntKind.i64.bits))).toNat, UInt8.ofNat (IntKind.u8.wrap (((n : Nat) : Int).fdiv (2 ^ min 8 IntKind.i64.bits))).toNat, UInt8.ofNat (IntKind.u8.wrap ((n : Nat) : Int)).toNat] = _
 rw [show (2 : Int) ^ min 24 IntKind.i64.bits = ((16777216 : Nat) : Int) by decide, show (2 : Int) ^ min 16 IntKind.i64.bits = ((65536 : Nat) : Int) by decide, show (2 : Int) ^ min 8 IntKind.i64.bits = ((256 : Nat) : Int) by decide, e1, e2, e3, e0]
theorem afq (a b c d n : Nat) (ha : a < 256) (hb : b < 256) (hc : c < 256) (hd : d < 256) (h : n = ((a * 16777216 + b * 65536) + c * 256) + d) : n / 16777216 % 256 = a /\ n / 65536 % 256 = b /\ n / 256 % 256 = c /\ n % 256 = d := by omega
theorem LY (a b c d : UInt8) (r : LU0) : c4 (a :: b :: c :: d :: r) = ((a.toNat * 16777216 + b.toNat * 65536) + c.toNat * 256) + d.toNat := rfl
theorem Ea {y : LU0} (h : 4 <= y.length) {N : Nat} (hN : c4 y = N) : b4 .i64 (N : Int) = y.take 4 := by
 obtain ⟨a, b, c, d, r, rfl⟩ := four y h
 rw [LY] at hN
 obtain ⟨e1, e2, e3, e4⟩ := afq a.toNat b.toNat c.toNat d.toNat N a.toNat_lt b.toNat_lt c.toNat_lt d.toNat_lt hN.symm
 rw [Zt, e1, e2, e3, e4, UInt8.ofNat_toNat, UInt8.ofNat_toNat, UInt8.ofNat_toNat, UInt8.ofNat_toNat]
 rfl
theorem Zo : b4 .i64 (-1) = [255, 255, 255, 255] := by decide +kernel
theorem ZF (a b c d : Nat) (ha : a < 256) (hb : b < 256) (hc : c < 256) (hd : d < 256) (h : ((a * 16777216 + b * 65536) + c * 256) + d = 4294967295) : a = 255 /\ b = 255 /\ c = 255 /\ d = 255 := by omega
theorem Fv {a : UInt8} (h : a.toNat = 255) : a = 255 := UInt8.toNat_inj.1 (h.trans (by decide))
theorem AJ {y : LU0} (h : y.length = 4) : b4 .i64 (wV y) = y := by
 obtain ⟨a, b, c, d, r, rfl⟩ := four y (by omega)
 have hr : r = [] := by simpa using h
 subst hr
 generalize hN : c4 [a, b, c, d] = N
 by_cases e : N = 4294967295
 ·rw [show wV [a, b, c, d] = -1 from if_pos (hN.trans e), Zo]
  rw [LY] at hN
  obtain ⟨e1, e2, e3, e4⟩ := ZF _ _ _ _ a.toNat_lt b.toNat_lt c.toNat_lt d.toNat_lt (hN.trans e)
  rw [Fv e1, Fv e2, Fv e3, Fv e4]
 ·rw [show wV [a, b, c, d] = ((c4 [a, b, c, d] : Nat) : Int) from if_neg (fun k => e (hN.symm.trans k)), hN, Ea (by simp) hN]
  rfl
theorem aaU (l : LU0) (hm : l.take 4 = mgW) (h4 : 4 <= (l.drop 4).length) (N : Nat) (hN : c4 (l.drop 4) = N) (hx : ((l.drop 4).drop 4).length = 32 * N) (h : (nst 32 gfE N (0, (l.drop 4).drop 4)).1 = 0) : (gnVs (0, (l.drop 4).drop 4) N).length = N /\ (∀ a, a ∈ gnVs (0, (l.drop 4).drop 4) N -> a < Rr) /\ pubB (gnVs (0, (l.drop 4).drop 4) N) N = l := by
 have hj : l.take 4 ++ ((l.drop 4).take 4 ++ (l.drop 4).drop 4) = l := by rw [List.take_append_drop, List.take_append_drop]
 obtain ⟨q1, q2⟩ := AT ((l.drop 4).drop 4) N h (by omega)
 have hl : (gnVs (0, (l.drop 4).drop 4) N).length = N := by simp [gnVs]
 have q1 : yh (gnVs (0, (l.drop 4).drop 4) N) = ((l.drop 4).drop 4).take (32 * N) := q1
 refine ⟨hl, q2, ?_⟩
 unfold pubB
 rw [hl, List.take_of_length_le (by omega), q1, Ea h4 hN, IX hx, ← hm, List.append_assoc]
 exact hj
theorem WA (y R : LU0) (N : Nat) (hx : y.length = 48 * N + 96) (h8 : nst 48 g1E N (0, y) = (0, R)) (h : g2E (R.take 96) = 0) : (gkVs (0, y) N).length = N /\ (∀ a, a ∈ gkVs (0, y) N -> okp a) /\ p2E (g2V (R.take 96)) = 0 /\ sml2 (g2V (R.take 96)) /\ rU (gkVs (0, y) N) ++ p2S (g2V (R.take 96)) = y := by
 have h0 : (nst 48 g1E N (0, y)).1 = 0 := by rw [h8]
 obtain ⟨q1, q2⟩ := zE y N h0 (by omega)
 have hR : R = y.drop (48 * N) := by
  have e := (qh N (0, y) h0).2.1
  rw [h8] at e
  exact congrArg Prod.snd e
 have hRl : R.length = 96 := by rw [hR, List.length_drop]; omega
 rw [IX hRl] at h ⊢
 obtain ⟨u1, u2, u3⟩ := LU hRl h
 have hl : (gkVs (0, y) N).length = N := by simp [gkVs]
 have q1 : rU (gkVs (0, y) N) = y.take (48 * N) := q1
 refine ⟨hl, q2, u2, u3, ?_⟩
 rw [q1, u1, hR, List.take_append_drop]
theorem ac9 (l : LU0) (N : Nat) (X : LU0) (k1 : (gkVs (0, (l.drop 4).drop 4) N).length = N) (k5 : rU (gkVs (0, (l.drop 4).drop 4) N) ++ X = (l.drop 4).drop 4) : qG (gkVs (0, (l.drop 4).drop 4) N) N ++ X = mgK ++ b4 .i64 (N : Int) ++ (l.drop 4).drop 4 := by
 unfold qG
 rw [List.append_assoc, List.take_of_length_le (by rw [k1]; exact Nat.le_refl _), k5, k1]
theorem acy (l : LU0) (hm : l.take 4 = tL) (h4 : 4 <= (l.drop 4).length) (N : Nat) (hN : c4 (l.drop 4) = N) : mgK ++ b4 .i64 (N : Int) ++ (l.drop 4).drop 4 = l := by
 have hj : l.take 4 ++ ((l.drop 4).take 4 ++ (l.drop 4).drop 4) = l := by rw [List.take_append_drop, List.take_append_drop]
 rw [Ea h4 hN, List.append_assoc]
 refine Eq.trans ?_ hj
 rw [hm]
 rfl
theorem ZM (l : LU0) (hm : l.take 4 = tL) (h4 : 4 <= (l.drop 4).length) (N : Nat) (hN : c4 (l.drop 4) = N) (hx : ((l.drop 4).drop 4).length = 48 * N + 96) (R : LU0) (h8 : nst 48 g1E N (0, (l.drop 4).drop 4) = (0, R)) (h : g2E (R.take 96) = 0) : (gkVs (0, (l.drop 4).drop 4) N).length = N /\ (∀ a, a ∈ gkVs (0, (l.drop 4).drop 4) N -> okp a) /\ p2E (g2V (R.take 96)) = 0 /\ sml2 (g2V (R.take 96)) /\ qG (gkVs (0, (l.drop 4).drop 4) N) N ++ p2S (g2V (R.take 96)) = l := by
 obtain ⟨k1, k2, k3, k4, k5⟩ := WA _ R N hx h8 h
 exact ⟨k1, k2, k3, k4, (ac9 l N _ k1 k5).trans (acy l hm h4 N hN)⟩
theorem aa3 (c : LU0) : c.take (32 * 5) ++ (((c.drop (32 * 5)).drop (4 * 0)).take 4 ++ (((c.drop (32 * 5)).drop (4 * 1)).take 4 ++ ((c.drop (32 * 5)).drop (4 * 2)).take 4)) = c.take 172 := by
 rw [show 172 = 32 * 5 + (4 + (4 + 4)) from rfl, List.take_add]
 generalize c.drop (32 * 5) = z
 rw [show z.drop (4 * 2) = (z.drop 4).drop 4 by rw [List.drop_drop], show z.drop (4 * 0) = z from rfl, show 4 * 1 = 4 from rfl, List.take_add, List.take_add]
theorem Rp (g : GT) (V : Nat -> Int) : (qfB g V 3).w0 = V 0 /\ (qfB g V 3).w1 = V 1 /\ (qfB g V 3).w2 = V 2 := r30
theorem N4 {c : LU0} (hl : 172 <= c.length) (h : gE c = 0) : gB (gV (0, c)) = c.take 172 /\ xK (gV (0, c)) := by
 have h : (nst 32 gfE 5 (0, c)).1 = 0 := h
 obtain ⟨q1, q2⟩ := AT c 5 h (by omega)
 have e5 : nst 32 gfE 5 (0, c) = (0, c.drop (32 * 5)) := (qh 5 (0, c) h).2.1
 have hn : gN (gV (0, c)) = (List.range 5).map fun j => rvl 32 gfV 0 (nst 32 gfE j (0, c)) := rfl
 rw [← hn] at q1 q2
 refine ⟨?_, q2⟩
 have hs : gS (gV (0, c)) = yh (gN (gV (0, c))) := by
  show (((qL _ ++ qL _) ++ qL _) ++ qL _) ++ qL _ = _
  simp only [yh, gN, List.flatMap_cons, List.flatMap_nil, List.append_nil, List.append_assoc]
 have ew : ∀ j, nst 4 noE j (nst 32 gfE 5 (0, c)) = (0, (c.drop (32 * 5)).drop (4 * j)) := fun j => by
  rw [e5, zG j (fun i hi => rfl)]
 have hw : ∀ j, rvl 4 wV 0 (nst 4 noE j (nst 32 gfE 5 (0, c))) = wV (((c.drop (32 * 5)).drop (4 * j)).take 4) := fun j => by
  rw [ew]; exact if_pos rfl
 have w0 : (gV (0, c)).w0 = wV (((c.drop (32 * 5)).drop (4 * 0)).take 4) := ((Rp _ (fun j => rvl 4 wV 0 (nst 4 noE j (nst 32 gfE 5 (0, c))))).1).trans (hw 0)
 have w1 : (gV (0, c)).w1 = wV (((c.drop (32 * 5)).drop (4 * 1)).take 4) := ((Rp _ (fun j => rvl 4 wV 0 (nst 4 noE j (nst 32 gfE 5 (0, c))))).2.1).trans (hw 1)
 have w2 : (gV (0, c)).w2 = wV (((c.drop (32 * 5)).drop (4 * 2)).take 4) := ((Rp _ (fun j => rvl 4 wV 0 (nst 4 noE j (nst 32 gfE 5 (0, c))))).2.2).trans (hw 2)
 unfold gB
 rw [hs, q1, w0, w1, w2, AJ (by simp only [List.length_take, List.length_drop]; omega), AJ (by simp only [List.length_take, List.length_drop]; omega), AJ (by simp only [List.length_take, List.length_drop]; omega)]
 exact aa3 c
theorem C6 (l : LU0) : ∀ n, 172 * n <= l.length -> (∀ i, i < n -> gE (l.drop (172 * i)) = 0) -> (gsv l n).flatMap gB = l.take (172 * n) /\ ∀ g, g ∈ gsv l n -> xK g
 | 0, _, _ => ⟨by simp [gsv], fun g h => by simp [gsv] at h⟩
 | n + 1, hl, h => by
  have hl' : 172 * n + 172 <= l.length := by rw [← Nat.mul_succ]; exact hl
  obtain ⟨h1, h2⟩ := C6 l n (by omega) (fun i hi => h i (by omega))
  obtain ⟨p1, p2⟩ := N4 (c := l.drop (172 * n)) (by rw [List.length_drop]; omega) (h n (by omega))
  have e : gsv l (n + 1) = gsv l n ++ [gV (0, l.drop (172 * n))] := by unfold gsv; rw [List.range_succ, List.map_append]; rfl
  rw [e, List.flatMap_append, h1]
  refine ⟨?_, fun g hg => ?_⟩
  ·simp only [List.flatMap_cons, List.flatMap_nil, List.append_nil]
   rw [p1, Nat.mul_succ, List.take_add]
  ·rcases List.mem_append.1 hg with hg | hg
   ·exact h2 g hg
   ·rw [List.mem_singleton.1 hg]; exact p2
theorem aaS (l : LU0) (hm : l.take 4 = sL) (h4 : 4 <= (l.drop 4).length) (N p q : Nat) (hN : c4 (l.drop 4) = N) (hP : c4 ((l.drop 4).drop 4) = p) (hQ : c4 (((l.drop 4).drop 4).drop 4) = q) (h5 : 4 <= ((l.drop 4).drop 4).length) (h6 : 4 <= (((l.drop 4).drop 4).drop 4).length) (hx : ((((l.drop 4).drop 4).drop 4).drop 4).length = N * 172) (h : gEs ((((l.drop 4).drop 4).drop 4).drop 4) N = 0) : (gsv ((((l.drop 4).drop 4).drop 4).drop 4) N).length = N /\ (∀ g, g ∈ gsv ((((l.drop 4).drop 4).drop 4).drop 4) N -> xK g) /\ outC (gsv ((((l.drop 4).drop 4).drop 4).drop 4) N) ((p : Nat) : Int) ((q : Nat) : Int) N = l := by
 have hj : l.take 4 ++ ((l.drop 4).take 4 ++ (((l.drop 4).drop 4).take 4 ++ ((((l.drop 4).drop 4).drop 4).take 4 ++ (((l.drop 4).drop 4).drop 4).drop 4))) = l := by rw [List.take_append_drop, List.take_append_drop, List.take_append_drop, List.take_append_drop]
 obtain ⟨q1, q2⟩ := C6 ((((l.drop 4).drop 4).drop 4).drop 4) N (by omega) (wk _ _ h)
 have hl : (gsv ((((l.drop 4).drop 4).drop 4).drop 4) N).length = N := by simp [gsv]
 refine ⟨hl, q2, ?_⟩
 unfold outC hdC
 rw [List.take_of_length_le (l := gsv _ _) (by rw [hl]; exact Nat.le_refl _), hl, q1, Ea h4 hN, Ea h5 hP, Ea h6 hQ, List.take_of_length_le (l := (((l.drop 4).drop 4).drop 4).drop 4) (by omega)]
 simp only [List.append_assoc]
 refine Eq.trans ?_ hj
 rw [hm]
 rfl
end Go.Proofs.YtokjhbmmdmeafaaGreat
set_option linter.unusedSimpArgs false
set_option linter.unusedVariables false
namespace Go.Proofs.YtokjhbmmdmeafaaGreat
open Go.Ev Go.RowKit
open Tryz
def ov (a : AV) : Ora := { ch := 0, hi := fun _ => 0, ex := 7, av := fun _ => a }
def fgP (l : LU0) (a : AV) : Prop := rP prog 6 [.t (.v (.string (ofL l)))] a
theorem aey {l : LU0} {a : AV} (h : Gives prog 6 [.t (.v (.string (ofL l)))] a) : fgP l a := ⟨fun vs w => Go.Proofs.enters_of (P := prog) func6 (by kernel_rfl) rfl vs w, h⟩
def fxP (e : Int) : AV := .tp [.ag ub, vi0 e]
def fbP (l : LU0) : Prop := ∃ e : Int, e ≠ 0 /\ fgP l (fxP e)
def fwP (a : List XV) (l : LU0) : Prop := rP prog 14 a (.tp [.v (.string (ofL l)), vi0 0])
theorem agl {l : LU0} {a : List XV} (h : Gives prog 14 a (.tp [.v (.string (ofL l)), vi0 0])) : fwP a l := ⟨fun vs w => Go.Proofs.enters_of (P := prog) func14 (by kernel_rfl) rfl vs w, h⟩
def fgV (l : LU0) (a : AV) : Prop := rP prog 7 [.t (.v (.string (ofL l)))] a
theorem aeq {l : LU0} {a : AV} (h : Gives prog 7 [.t (.v (.string (ofL l)))] a) : fgV l a := ⟨fun vs w => Go.Proofs.enters_of (P := prog) func7 (by kernel_rfl) rfl vs w, h⟩
def fxV (e : Int) : AV := .tp [.ag wr, vi0 e]
def fbV (l : LU0) : Prop := ∃ e : Int, e ≠ 0 /\ fgV l (fxV e)
def fwV (a : List XV) (l : LU0) : Prop := rP prog 15 a (.tp [.v (.string (ofL l)), vi0 0])
theorem afE {l : LU0} {a : List XV} (h : Gives prog 15 a (.tp [.v (.string (ofL l)), vi0 0])) : fwV a l := ⟨fun vs w => Go.Proofs.enters_of (P := prog) func15 (by kernel_rfl) rfl vs w, h⟩
def fgW (l : LU0) (a : AV) : Prop := rP prog 8 [.t (.v (.string (ofL l)))] a
theorem adW {l : LU0} {a : AV} (h : Gives prog 8 [.t (.v (.string (ofL l)))] a) : fgW l a := ⟨fun vs w => Go.Proofs.enters_of (P := prog) func8 (by kernel_rfl) rfl vs w, h⟩
def fxW (e : Int) : AV := .tp [.v (.slice none 0 0), vi0 e]
def fbW (l : LU0) : Prop := ∃ e : Int, e ≠ 0 /\ fgW l (fxW e)
def fwW (a : List XV) (l : LU0) : Prop := rP prog 16 a (.tp [.v (.string (ofL l)), vi0 0])
theorem acw {l : LU0} {a : List XV} (h : Gives prog 16 a (.tp [.v (.string (ofL l)), vi0 0])) : fwW a l := ⟨fun vs w => Go.Proofs.enters_of (P := prog) func16 (by kernel_rfl) rfl vs w, h⟩
def fgC (l : LU0) (a : AV) : Prop := rP prog 9 [.t (.v (.string (ofL l)))] a
theorem ac5 {l : LU0} {a : AV} (h : Gives prog 9 [.t (.v (.string (ofL l)))] a) : fgC l a := ⟨fun vs w => Go.Proofs.enters_of (P := prog) func9 (by kernel_rfl) rfl vs w, h⟩
def fxC (e : Int) : AV := .tp [.ag zcL, vi0 e]
def fbC (l : LU0) : Prop := ∃ e : Int, e ≠ 0 /\ fgC l (fxC e)
def fwC (a : List XV) (l : LU0) : Prop := rP prog 18 a (.tp [.v (.string (ofL l)), vi0 0])
theorem acx {l : LU0} {a : List XV} (h : Gives prog 18 a (.tp [.v (.string (ofL l)), vi0 0])) : fwC a l := ⟨fun vs w => Go.Proofs.enters_of (P := prog) func18 (by kernel_rfl) rfl vs w, h⟩
def fgK (l : LU0) (a : AV) : Prop := rP prog 10 [.t (.v (.string (ofL l)))] a
theorem aex {l : LU0} {a : AV} (h : Gives prog 10 [.t (.v (.string (ofL l)))] a) : fgK l a := ⟨fun vs w => Go.Proofs.enters_of (P := prog) func10 (by kernel_rfl) rfl vs w, h⟩
def fxK (e : Int) : AV := .tp [.ag zk, vi0 e]
def fbK (l : LU0) : Prop := ∃ e : Int, e ≠ 0 /\ fgK l (fxK e)
def fwK (a : List XV) (l : LU0) : Prop := rP prog 20 a (.tp [.v (.string (ofL l)), vi0 0])
theorem ae0 {l : LU0} {a : List XV} (h : Gives prog 20 a (.tp [.v (.string (ofL l)), vi0 0])) : fwK a l := ⟨fun vs w => Go.Proofs.enters_of (P := prog) func20 (by kernel_rfl) rfl vs w, h⟩
def fwR (a : List XV) : Prop := rP prog 23 a (.v (.bool true))
theorem aed {a : List XV} (h : Gives prog 23 a (.v (.bool true))) : fwR a := ⟨fun vs w => Go.Proofs.enters_of (P := prog) func23 (by kernel_rfl) rfl vs w, h⟩
def FO (l : LU0) : Prop := Gives prog 5 [.t (.v (.string (ofL l)))] (.v (.bool true))
theorem foR {l : LU0} {ob : Prop} (os : LO0) (h : fnA prog (pN _) [FH, Dy, DA] 1 (oL os) f5 [.t (.v (.string (ofL l)))] = some (.v (.bool true), ob)) (hob : ob) : FO l := pL (P := prog) (X := pN _) (env := [FH, Dy, DA]) ⟨KF, CC, DD, tt0⟩ func5 1 (oL os) h ⟨_, rfl⟩ hob
theorem xG (l : LU0) : (!((ofL l).toList == (ofL l).toList)) = false := by simp
theorem Vo (l : LU0) (p : fbP l) (v : fbV l) (w : fbW l) (c : fbC l) (k : fbK l) : FO l := by
 obtain ⟨eP, hP, gP⟩ := p
 obtain ⟨eV, hV, gV⟩ := v
 obtain ⟨eW, hW, gW⟩ := w
 obtain ⟨eC, hC, gC⟩ := c
 obtain ⟨eK, hK, gK⟩ := k
 exact foR [(2, ov (fxP eP)), (10, wF), (12, ov (fxV eV)), (20, wF), (22, ov (fxW eW)), (29, wF), (31, ov (fxC eC)), (39, wF), (41, ov (fxK eK)), (49, wF)] (by kernel_rfl) (ai (show (eK == 0) = false from by simpa using hK) (ai (gK) (ai (show (eC == 0) = false from by simpa using hC) (ai (gC) (ai (show (eW == 0) = false from by simpa using hW) (ai (gW) (ai (show (eV == 0) = false from by simpa using hV) (ai (gV) (ai (show (eP == 0) = false from by simpa using hP) (ai (gP) tt0))))))))))
theorem YH (l : LU0) (pv : PF) (g : fgP l (.tp [.ag pv.ch, vi0 0])) (pu : fwP [.t (.ag pv.ch)] l) (v : fbV l) (w : fbW l) (c : fbC l) (k : fbK l) : FO l := by
 obtain ⟨eV, hV, gV⟩ := v
 obtain ⟨eW, hW, gW⟩ := w
 obtain ⟨eC, hC, gC⟩ := c
 obtain ⟨eK, hK, gK⟩ := k
 exact foR [(2, ov (.tp [.ag pv.ch, vi0 0])), (12, ov (.tp [.v (.string (ofL l)), vi0 0])), (23, wF), (26, ov (fxV eV)), (34, wF), (36, ov (fxW eW)), (43, wF), (45, ov (fxC eC)), (53, wF), (55, ov (fxK eK)), (63, wF)] (by kernel_rfl) (ai (show (eK == 0) = false from by simpa using hK) (ai (gK) (ai (show (eC == 0) = false from by simpa using hC) (ai (gC) (ai (show (eW == 0) = false from by simpa using hW) (ai (gW) (ai (show (eV == 0) = false from by simpa using hV) (ai (gV) (ai (xG l) (ai (pu) (ai (g) tt0)))))))))))
theorem X7 (l : LU0) (vv : VT) (p : fbP l) (g : fgV l (.tp [.ag vv.ch, vi0 0])) (pu : fwV [.t (.ag vv.ch)] l) (h2 : sml2 vv.b /\ may2 vv.b /\ q6 vv.b) (h1 : sml1 vv.s2 /\ may1 vv.s2 /\ q7 vv.s2) (w : fbW l) (c : fbC l) (k : fbK l) : FO l := by
 obtain ⟨eP, hP, gP⟩ := p
 obtain ⟨eW, hW, gW⟩ := w
 obtain ⟨eC, hC, gC⟩ := c
 obtain ⟨eK, hK, gK⟩ := k
 exact foR [(2, ov (fxP eP)), (10, wF), (12, ov (.tp [.ag vv.ch, vi0 0])), (22, ov (.tp [.v (.string (ofL l)), vi0 0])), (33, wF), (38, wO 0), (45, wO 0), (49, ov (fxW eW)), (56, wF), (58, ov (fxC eC)), (66, wF), (68, ov (fxK eK)), (76, wF)] (by kernel_rfl) (ai (show (eK == 0) = false from by simpa using hK) (ai (gK) (ai (show (eC == 0) = false from by simpa using hC) (ai (gC) (ai (show (eW == 0) = false from by simpa using hW) (ai (gW) (ai (show sml1 vv.s2 /\ may1 vv.s2 /\ q7 vv.s2 from h1) (ai (show sml2 vv.b /\ may2 vv.b /\ q6 vv.b from h2) (ai (xG l) (ai (pu) (ai (g) (ai (show (eP == 0) = false from by simpa using hP) (ai (gP) tt0)))))))))))))
theorem Yu (l : LU0) (p : fbP l) (v : fbV l) (g : fgW l (.tp [.v (.slice none 0 0), vi0 0])) (pu : fwW [.t (.v (.slice none 0 0))] l) (c : fbC l) (k : fbK l) : FO l := by
 obtain ⟨eP, hP, gP⟩ := p
 obtain ⟨eV, hV, gV⟩ := v
 obtain ⟨eC, hC, gC⟩ := c
 obtain ⟨eK, hK, gK⟩ := k
 exact foR [(2, ov (fxP eP)), (10, wF), (12, ov (fxV eV)), (20, wF), (22, ov (.tp [.v (.slice none 0 0), vi0 0])), (31, ov (.tp [.v (.string (ofL l)), vi0 0])), (42, wF), (45, ov (fxC eC)), (53, wF), (55, ov (fxK eK)), (63, wF)] (by kernel_rfl) (ai (show (eK == 0) = false from by simpa using hK) (ai (gK) (ai (show (eC == 0) = false from by simpa using hC) (ai (gC) (ai (xG l) (ai (pu) (ai (g) (ai (show (eV == 0) = false from by simpa using hV) (ai (gV) (ai (show (eP == 0) = false from by simpa using hP) (ai (gP) tt0)))))))))))
theorem WG (l : LU0) (N : Nat) (C : List Value) (p : fbP l) (v : fbV l) (g : ye prog 8 [.t (.v (.string (ofL l)))] (fun k => .tp [.sx k N, vi0 0]) (.gr [.l C] 28 4)) (pu : fwW [.rx [.l C] N] l) (c : fbC l) (k : fbK l) : FO l := by
 obtain ⟨eP, hP, gP⟩ := p
 obtain ⟨eV, hV, gV⟩ := v
 obtain ⟨eC, hC, gC⟩ := c
 obtain ⟨eK, hK, gK⟩ := k
 exact foR [(2, ov (fxP eP)), (10, wF), (12, ov (fxV eV)), (20, wF), (22, { ch := 0, hi := fun _ => 0, ex := 4, av := fun k => .tp [.sx k N, vi0 0], lp := some { kd := 9, I := { n := 0, sl := [] }, ex := .normal, E := { n := 0, sl := [], hp := [(0, .gr [.l C] 28 4)] }, fr := 0 } }), (31, ov (.tp [.v (.string (ofL l)), vi0 0])), (42, wF), (45, ov (fxC eC)), (53, wF), (55, ov (fxK eK)), (63, wF)] (by kernel_rfl) (ai (show (eK == 0) = false from by simpa using hK) (ai (gK) (ai (show (eC == 0) = false from by simpa using hC) (ai (gC) (ai (xG l) (ai (pu) (ai (g) (ai (show (eV == 0) = false from by simpa using hV) (ai (gV) (ai (show (eP == 0) = false from by simpa using hP) (ai (gP) tt0)))))))))))
theorem Yd (l : LU0) (a b : Int) (p : fbP l) (v : fbV l) (w : fbW l) (g : fgC l (.tp [.ag [.c (.slice none 0 0), ci0 a, ci0 b], vi0 0])) (pu : fwC [.t (.ag [.c (.slice none 0 0), ci0 a, ci0 b])] l) (h : fwR [.t (.ag [.c (.slice none 0 0), ci0 a, ci0 b])]) (k : fbK l) : FO l := by
 obtain ⟨eP, hP, gP⟩ := p
 obtain ⟨eV, hV, gV⟩ := v
 obtain ⟨eW, hW, gW⟩ := w
 obtain ⟨eK, hK, gK⟩ := k
 exact foR [(2, ov (fxP eP)), (10, wF), (12, ov (fxV eV)), (20, wF), (22, ov (fxW eW)), (29, wF), (31, ov (.tp [.ag [.c (.slice none 0 0), ci0 a, ci0 b], vi0 0])), (41, ov (.tp [.v (.string (ofL l)), vi0 0])), (52, wF), (56, ov (.v (.bool true))), (60, ov (fxK eK)), (68, wF)] (by kernel_rfl) (ai (show (eK == 0) = false from by simpa using hK) (ai (gK) (ai (h) (ai (xG l) (ai (pu) (ai (g) (ai (show (eW == 0) = false from by simpa using hW) (ai (gW) (ai (show (eV == 0) = false from by simpa using hV) (ai (gV) (ai (show (eP == 0) = false from by simpa using hP) (ai (gP) tt0))))))))))))
theorem VN (l : LU0) (N : Nat) (C : List Value) (a b : Int) (p : fbP l) (v : fbV l) (w : fbW l) (g : ye prog 9 [.t (.v (.string (ofL l)))] (fun k => .tp [.ag (.sx k N :: [ci0 a, ci0 b]), vi0 0]) (.gr [.l C] 94 23)) (pu : fwC [.ags [.r [.l C] N, .c (ci0 a), .c (ci0 b)]] l) (h : fwR [.ags [.r [.l C] N, .c (ci0 a), .c (ci0 b)]]) (k : fbK l) : FO l := by
 obtain ⟨eP, hP, gP⟩ := p
 obtain ⟨eV, hV, gV⟩ := v
 obtain ⟨eW, hW, gW⟩ := w
 obtain ⟨eK, hK, gK⟩ := k
 exact foR [(2, ov (fxP eP)), (10, wF), (12, ov (fxV eV)), (20, wF), (22, ov (fxW eW)), (29, wF), (31, { ch := 0, hi := fun _ => 0, ex := 4, av := fun k => .tp [.ag (.sx k N :: [ci0 a, ci0 b]), vi0 0], lp := some { kd := 9, I := { n := 0, sl := [] }, ex := .normal, E := { n := 0, sl := [], hp := [(0, .gr [.l C] 94 23)] }, fr := 0 } }), (41, ov (.tp [.v (.string (ofL l)), vi0 0])), (52, wF), (56, ov (.v (.bool true))), (60, ov (fxK eK)), (68, wF)] (by kernel_rfl) (ai (show (eK == 0) = false from by simpa using hK) (ai (gK) (ai (h) (ai (xG l) (ai (pu) (ai (g) (ai (show (eW == 0) = false from by simpa using hW) (ai (gW) (ai (show (eV == 0) = false from by simpa using hV) (ai (gV) (ai (show (eP == 0) = false from by simpa using hP) (ai (gP) tt0))))))))))))
theorem aay (l : LU0) (b : A2) (p : fbP l) (v : fbV l) (w : fbW l) (c : fbC l) (g : fgK l (.tp [.ag (.c (.slice none 0 0) :: pt2 b), vi0 0])) (pu : fwK [.t (.ag (.c (.slice none 0 0) :: pt2 b))] l) : FO l := by
 obtain ⟨eP, hP, gP⟩ := p
 obtain ⟨eV, hV, gV⟩ := v
 obtain ⟨eW, hW, gW⟩ := w
 obtain ⟨eC, hC, gC⟩ := c
 exact foR [(2, ov (fxP eP)), (10, wF), (12, ov (fxV eV)), (20, wF), (22, ov (fxW eW)), (29, wF), (31, ov (fxC eC)), (39, wF), (41, ov (.tp [.ag (.c (.slice none 0 0) :: pt2 b), vi0 0])), (51, ov (.tp [.v (.string (ofL l)), vi0 0])), (62, wF)] (by kernel_rfl) (ai (xG l) (ai (pu) (ai (g) (ai (show (eC == 0) = false from by simpa using hC) (ai (gC) (ai (show (eW == 0) = false from by simpa using hW) (ai (gW) (ai (show (eV == 0) = false from by simpa using hV) (ai (gV) (ai (show (eP == 0) = false from by simpa using hP) (ai (gP) tt0)))))))))))
theorem U0 (l : LU0) (N : Nat) (C : List Value) (b : A2) (p : fbP l) (v : fbV l) (w : fbW l) (c : fbC l) (g : ye prog 10 [.t (.v (.string (ofL l)))] (fun k => .tp [.ag (.sx k N :: pt2 b), vi0 0]) (.gr [.l C] 26 13)) (pu : fwK [.ags [.r [.l C] N, .c (.n 6 b.1.1), .c (.n 6 b.1.2), .c (.n 6 b.2.1.1), .c (.n 6 b.2.1.2), .c (.c (.bool b.2.2))]] l) : FO l := by
 obtain ⟨eP, hP, gP⟩ := p
 obtain ⟨eV, hV, gV⟩ := v
 obtain ⟨eW, hW, gW⟩ := w
 obtain ⟨eC, hC, gC⟩ := c
 exact foR [(2, ov (fxP eP)), (10, wF), (12, ov (fxV eV)), (20, wF), (22, ov (fxW eW)), (29, wF), (31, ov (fxC eC)), (39, wF), (41, { ch := 0, hi := fun _ => 0, ex := 4, av := fun k => .tp [.ag (.sx k N :: pt2 b), vi0 0], lp := some { kd := 9, I := { n := 0, sl := [] }, ex := .normal, E := { n := 0, sl := [], hp := [(0, .gr [.l C] 26 13)] }, fr := 0 } }), (51, ov (.tp [.v (.string (ofL l)), vi0 0])), (62, wF)] (by kernel_rfl) (ai (xG l) (ai (pu) (ai (g) (ai (show (eC == 0) = false from by simpa using hC) (ai (gC) (ai (show (eW == 0) = false from by simpa using hW) (ai (gW) (ai (show (eV == 0) = false from by simpa using hV) (ai (gV) (ai (show (eP == 0) = false from by simpa using hP) (ai (gP) tt0)))))))))))
end Go.Proofs.YtokjhbmmdmeafaaGreat
set_option linter.unusedSimpArgs false
set_option linter.unusedVariables false
namespace Go.Proofs.YtokjhbmmdmeafaaGreat
open Go.Ev Go.RowKit
open Tryz
theorem Db {l m : LU0} (h : l.take 4 = m) (hm : m.length = 4) : 4 <= l.length := by
 have e := congrArg List.length h
 rw [List.length_take, hm] at e
 omega
theorem aeF {l : LU0} (h : zh l ≠ 0) : fbP l := by
 exact ⟨_, h, aey (adJ l h)⟩
theorem Wx {l : LU0} (h : l.take 4 ≠ mgP) : fbP l := aeF (by
 have e : zh l = 80 := if_neg h
 rw [e]; decide)
theorem m_P {l : LU0} (h : zh l = 0) : l.take 4 = mgP := by
 by_cases k : l.take 4 = mgP
 ·exact k
 ·have e : zh l = 80 := if_neg k
  rw [e] at h; exact absurd h (by decide)
theorem adq {l : LU0} (h : zo l ≠ 0) : fbV l := by
 exact ⟨_, h, aeq (abb l h)⟩
theorem U2 {l : LU0} (h : l.take 4 ≠ mgV) : fbV l := adq (by
 have e : zo l = 80 := if_neg h
 rw [e]; decide)
theorem m_V {l : LU0} (h : zo l = 0) : l.take 4 = mgV := by
 by_cases k : l.take 4 = mgV
 ·exact k
 ·have e : zo l = 80 := if_neg k
  rw [e] at h; exact absurd h (by decide)
theorem ady {l : LU0} (h : BV l ≠ 0) : fbW l := by
 rcases Iz l with ⟨_, h2⟩ | ⟨h2, _⟩
 ·exact ⟨_, h, adW h2⟩
 ·exact absurd h2 h
theorem UF {l : LU0} (h : l.take 4 ≠ mgW) : fbW l := ady (by
 have e : BV l = 80 := if_neg h
 rw [e]; decide)
theorem m_W {l : LU0} (h : BV l = 0) : l.take 4 = mgW := by
 by_cases k : l.take 4 = mgW
 ·exact k
 ·have e : BV l = 80 := if_neg k
  rw [e] at h; exact absurd h (by decide)
theorem abn {l : LU0} (h : GJ l ≠ 0) : fbC l := by
 rcases H2 l with ⟨_, h2⟩ | ⟨h2, _⟩
 ·exact ⟨_, h, ac5 h2⟩
 ·exact absurd h2 h
theorem Uu {l : LU0} (h : l.take 4 ≠ sL) : fbC l := abn (by
 have e : GJ l = 80 := if_neg h
 rw [e]; decide)
theorem m_C {l : LU0} (h : GJ l = 0) : l.take 4 = sL := by
 by_cases k : l.take 4 = sL
 ·exact k
 ·have e : GJ l = 80 := if_neg k
  rw [e] at h; exact absurd h (by decide)
theorem aee {l : LU0} (h : G5 l ≠ 0) : fbK l := by
 rcases Ib l with ⟨_, h2⟩ | ⟨h2, _⟩
 ·exact ⟨_, h, aex h2⟩
 ·exact absurd h2 h
theorem UH {l : LU0} (h : l.take 4 ≠ tL) : fbK l := aee (by
 have e : G5 l = 80 := if_neg h
 rw [e]; decide)
theorem m_K {l : LU0} (h : G5 l = 0) : l.take 4 = tL := by
 by_cases k : l.take 4 = tL
 ·exact k
 ·have e : G5 l = 80 := if_neg k
  rw [e] at h; exact absurd h (by decide)
theorem Qw (l : LU0) (h : zh l = 0) : FO l := by
 have hm := m_P h
 have v : fbV l := U2 (by rw [hm]; decide)
 have w : fbW l := UF (by rw [hm]; decide)
 have c : fbC l := Uu (by rw [hm]; decide)
 have k : fbK l := UH (by rw [hm]; decide)
 obtain ⟨e0, e1, e2⟩ := Zy l h
 have hp := R6 (gpR l) e2
 rw [e0, e1] at hp
 exact YH l (gpR l) (aey (aaG l h)) (agl hp) v w c k
theorem TY (l : LU0) (h : zo l = 0) : FO l := by
 have hm := m_V h
 have p : fbP l := Wx (by rw [hm]; decide)
 have w : fbW l := UF (by rw [hm]; decide)
 have c : fbC l := Uu (by rw [hm]; decide)
 have k : fbK l := UH (by rw [hm]; decide)
 obtain ⟨e0, e1, e2, m1, g1, m2, g2⟩ := aa4 l h
 have hp := Tg (gcR l) e2
 rw [e0, e1] at hp
 exact X7 l (gcR l) p (aeq (aax l h)) (afE hp) ⟨e2.2, m2, g2⟩ ⟨e2.1 _ (by simp [VT.pts]), m1, g1⟩ w c k
theorem TK (l : LU0) (h : BV l = 0) : FO l := by
 have hm := m_W h
 have p : fbP l := Wx (by rw [hm]; decide)
 have v : fbV l := U2 (by rw [hm]; decide)
 have c : fbC l := Uu (by rw [hm]; decide)
 have k : fbK l := UH (by rw [hm]; decide)
 rcases Iz l with ⟨h1, _⟩ | ⟨_, _, h4, hN, hx, h9⟩
 ·exact absurd h h1
 have hn := Db hm rfl
 obtain ⟨o1, o2, o3⟩ := aaU l hm h4 _ rfl hx h9
 rcases Nat.eq_zero_or_pos (c4 (l.drop 4)) with hz | hz
 ·have e : pubB [] 0 = l := by
   rw [hz] at o3
   exact o3
  have hp := WH
  rw [e] at hp
  exact Yu l p v (adW (Y6 l hn hm h4 hN hx hz)) (acw hp) c k
 ·have hp := Zd (gnVs (0, (l.drop 4).drop 4) (c4 (l.drop 4))) (by rw [o1]; exact hN) (Rc o2) o2
  rw [o1, o3] at hp
  exact WG l _ _ p v (acX l hn hm h4 hN hx hz h9) (acw (hp.rx_rz rfl ⟨[], by simp⟩)) c k
theorem Qm (l : LU0) (h : GJ l = 0) : FO l := by
 have hm := m_C h
 have p : fbP l := Wx (by rw [hm]; decide)
 have v : fbV l := U2 (by rw [hm]; decide)
 have w : fbW l := UF (by rw [hm]; decide)
 have k : fbK l := UH (by rw [hm]; decide)
 rcases H2 l with ⟨h1, _⟩ | ⟨_, _, h4, hN, h5, h6, hx, hg, hq, hr⟩
 ·exact absurd h h1
 have hn := Db hm rfl
 obtain ⟨o1, o2, o3⟩ := aaS l hm h4 _ _ _ rfl rfl rfl h5 h6 hx hg
 generalize hNe : c4 (l.drop 4) = N at *
 generalize hPe : c4 ((l.drop 4).drop 4) = p' at *
 generalize hQe : c4 (((l.drop 4).drop 4).drop 4) = q' at *
 rcases Nat.eq_zero_or_pos N with hz | hz
 ·subst hz
  have hr0 := hr
  have hr := hr.2.2.1
  have hl : (gsv ((((l.drop 4).drop 4).drop 4).drop 4) 0).length = 0 := rfl
  rw [hl] at hr
  have hp0 : p' = 0 := by omega
  have e : outC [] ((p' : Nat) : Int) ((q' : Nat) : Int) 0 = l := o3
  have hp := Zc ((p' : Nat) : Int) ((q' : Nat) : Int) (by omega) (by omega) (by omega) (by omega)
  rw [e] at hp
  exact Yd l _ _ p v w (ac5 (ab3 l _ hNe hn hm h4 hN _ hPe h5 _ hQe h6 hx rfl hq (Pn l _ _ _ rfl true ⟨fun _ => hr0, fun _ => rfl⟩))) (acx hp) (aed (Vt _ _ (by omega) (by omega) (by omega))) k
 ·have hp := abp (gsv ((((l.drop 4).drop 4).drop 4).drop 4) N) ((p' : Nat) : Int) ((q' : Nat) : Int) hr (by omega) (fun g hg => Rc (o2 g hg)) o2
  have hR := Vw (gsv ((((l.drop 4).drop 4).drop 4).drop 4) N) ((p' : Nat) : Int) ((q' : Nat) : Int) (by rw [o1]; omega) hr
  rw [o1] at hR hp
  rw [o3] at hp
  exact VN l _ _ _ _ p v w (aeO l _ hNe hn hm h4 hN _ hPe h5 _ hQe h6 hx hz (wk _ _ hg) hq (Ie l _ _ _ hz true ⟨fun _ => hr, fun _ => rfl⟩)) (acx (Gives.ags_r hp)) (aed (Gives.ags_r hR)) k
theorem Rh (l : LU0) (h : G5 l = 0) : FO l := by
 have hm := m_K h
 have p : fbP l := Wx (by rw [hm]; decide)
 have v : fbV l := U2 (by rw [hm]; decide)
 have w : fbW l := UF (by rw [hm]; decide)
 have c : fbC l := Uu (by rw [hm]; decide)
 rcases Ib l with ⟨h1, _⟩ | ⟨_, _, h4, hN, hx, h8, h⟩
 ·exact absurd h h1
 have hn := Db hm rfl
 obtain ⟨o1, o2, o3, o4, o5⟩ := ZM l hm h4 _ rfl hx _ h8 h
 generalize hNe : c4 (l.drop 4) = N at *
 rcases Nat.eq_zero_or_pos N with hz | hz
 ·subst hz
  have hS : (nst 48 g1E 0 (0, (l.drop 4).drop 4)).2 = ((l.drop 4).drop 4) := rfl
  rw [hS] at h o3 o4 o5
  have hp := V2 _ o4 o3
  have e : qG [] 0 ++ p2S (g2V (((l.drop 4).drop 4).take 96)) = l := o5
  rw [e] at hp
  exact aay l _ p v w c (aex (Ns l _ hNe hn hm h4 hN hx rfl h)) (ae0 hp)
 ·have hp := Z7 (gkVs (0, (l.drop 4).drop 4) N) (g2V (((nst 48 g1E N (0, (l.drop 4).drop 4)).2).take 96)) (by rw [o1]; exact hN) (fun a ha => (o2 a ha).2) o4 (GD o2) o3
  rw [o1, o5] at hp
  exact U0 l _ _ _ p v w c (NW l _ hNe hn hm h4 hN hx hz _ h8 h) (ae0 (Gives.ags_r hp))
theorem BS (l : LU0) : FO l := by
 by_cases hP : zh l = 0
 ·exact Qw l hP
 by_cases hV : zo l = 0
 ·exact TY l hV
 by_cases hW : BV l = 0
 ·exact TK l hW
 by_cases hC : GJ l = 0
 ·exact Qm l hC
 by_cases hK : G5 l = 0
 ·exact Rh l hK
 exact Vo l (aeF hP) (adq hV) (ady hW) (abn hC) (aee hK)
theorem Bd (s : ByteArray) : Gives prog 5 [.t (.v (.string s))] (.v (.bool true)) := by
 have h : Gives prog 5 [.t (.v (.string (ofL s.data.toList)))] (.v (.bool true)) := BS s.data.toList
 rwa [show ofL s.data.toList = s from by unfold ofL; rw [Array.toArray_toList]] at h
end Go.Proofs.YtokjhbmmdmeafaaGreat
