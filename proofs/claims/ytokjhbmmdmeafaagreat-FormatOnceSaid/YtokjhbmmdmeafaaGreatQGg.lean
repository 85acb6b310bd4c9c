/- Pruned: Gg. -/
import Derived.Test.YtokjhbmmdmeafaaGreatQGf
import Derived.Test.YtokjhbmmdmeafaaGreatQGc
import Derived.Test.YtokjhbmmdmeafaaGreatQGb
import Derived.Test.YtokjhbmmdmeafaaGreatQGa
set_option linter.unusedSimpArgs false
set_option linter.unusedVariables false
namespace Go.Proofs.YtokjhbmmdmeafaaGreat
open Go.Ev Go.RowKit
open Tryz
abbrev LM (v : Value) : Prop := true = true /\ true = true /\ [v] = [v]
abbrev tk (n : Nat) : Prop := true = true /\ n = n
abbrev WU (v : Value) : Prop := v = v
def FH : Entry := zq 13 [(none, .v (.bool true))]
theorem KF : FH.OK prog := vV (fun args w => Go.Proofs.enters_of (P := prog) func13 (by kernel_rfl) rfl args w) (only (pL (P := prog) (X := pN _) (env := [wR]) ⟨sU, tt0⟩ func13 8 (oL [(32, { ch := 0, hi := fun _ => 0, ex := 2, cs := fun _ => [.y [67, 72, 87, 49]] }), (96, wT)]) (by kernel_rfl) ⟨_, rfl⟩ (ai (show true = true from rfl) (ai (show flat [.y [67, 72, 87, 49]] = (ofL [67, 72, 87, 49]).data.toList.map qK from rp _) tt0))))
def bd (l : List GT) : Int := if (∀ g, g ∈ l -> xK g) then 0 else 1
end Go.Proofs.YtokjhbmmdmeafaaGreat
set_option linter.unusedSimpArgs false
set_option linter.unusedVariables false
namespace Go.Proofs.YtokjhbmmdmeafaaGreat
open Go.Ev Go.RowKit
open Tryz
instance (a : A1) : Decidable (may1 a) := by unfold may1 is1; infer_instance
instance (a : A2) : Decidable (may2 a) := by unfold may2 is2; infer_instance
instance (a : A1) : Decidable (q7 a) := by unfold q7; infer_instance
instance (a : A2) : Decidable (q6 a) := by unfold q6; infer_instance
def p1E (a : A1) : Int := if may1 a then (if q7 a then 0 else 31) else 30
def p1S (a : A1) : LU0 := if may1 a /\ q7 a then zP (ofP a.1) (ofP a.2.1) a.2.2 true else []
def p2E (a : A2) : Int := if may2 a then (if q6 a then 0 else 31) else 30
def p2S (a : A2) : LU0 := if may2 a /\ q6 a then z3 (of2 a.1) (of2 a.2.1) a.2.2 true else []
theorem Au (a : A1) : (p1S a).length <= 48 := by
 unfold p1S
 split
 ·rw [Iv]; exact Nat.le_refl _
 ·exact Nat.zero_le _
theorem FJ (a : A2) : (p2S a).length <= 96 := by
 unfold p2S
 split
 ·rw [I8]; exact Nat.le_refl _
 ·exact Nat.zero_le _
def tK : Entry := p7 41 HQ.x (fun a => [(some (sml1 a), .tp [.v (.string (ofL (p1S a))), vi0 (p1E a)])])
theorem tg : tK.OK prog := pQ (fun args w => Go.Proofs.enters_of (P := prog) func41 (by kernel_rfl) rfl args w) (fun a => rT (fun h => by
 unfold p1S p1E
 by_cases h1 : may1 a
 ·by_cases h2 : q7 a
  ·rw [if_pos ⟨h1, h2⟩, if_pos h1, if_pos h2]; exact Uj a h h1 h2
  ·rw [if_neg (fun e => h2 e.2), if_pos h1, if_neg h2]; exact Ru a h h1 h2
 ·rw [if_neg (fun e => h1 e.1), if_neg h1]; exact TA a h h1))
def zm : Entry := p7 46 Io.x (fun a => [(some (sml2 a), .tp [.v (.string (ofL (p2S a))), vi0 (p2E a)])])
theorem yC : zm.OK prog := pQ (fun args w => Go.Proofs.enters_of (P := prog) func46 (by kernel_rfl) rfl args w) (fun a => rT (fun h => by
 unfold p2S p2E
 by_cases h1 : may2 a
 ·by_cases h2 : q6 a
  ·rw [if_pos ⟨h1, h2⟩, if_pos h1, if_pos h2]; exact WD a h h1 h2
  ·rw [if_neg (fun e => h2 e.2), if_pos h1, if_neg h2]; exact Pe a h h1 h2
 ·rw [if_neg (fun e => h1 e.1), if_neg h1]; exact Sr a h h1))
def mgW : LU0 := [67, 72, 87, 49]
def pubB (ns : List Nat) (i : Nat) : LU0 := (mgW ++ b4 .i64 (ns.length : Nat)) ++ yh (ns.take i)
theorem I0 (ns : List Nat) (i : Nat) : (pubB ns i).length <= 8 + 32 * ns.length := by
 unfold pubB
 have h1 : mgW.length = 4 := rfl
 simp only [List.length_append, A3, Bq, List.length_take]
 omega
theorem EA {ns : List Nat} {i x : Nat} (h : ns[i]? = some x) : pubB ns (i + 1) = pubB ns i ++ qL x := by
 unfold pubB; rw [EK h]; simp
theorem DT (ns : List Nat) : pubB ns 0 = mgW ++ b4 .u32 (IntKind.u32.wrap (ns.length : Nat)) := by
 unfold pubB; rw [w7]; simp [yh]
def ppI (ns : List Nat) (out : LU0) (z : Int) : LState := { n := 37, sl := [(4, .p 16 0), (22, .sz 0 ns.length), (23, vi0 ((ns.length : Nat) : Int)), (24, vi0 z)], hp := [(0, .rz [.l (numC 4 ns)]), (16, .own [.sx 41 out.length, ci0 0] 159), (41, .gr [.y out] 5 1)] }
def ppJ (ns : List Nat) : LState := { n := 37, sl := [(4, .p 16 0), (22, .sz 0 ns.length), (23, vi0 ((ns.length : Nat) : Int)), (24, vi0 0)], hp := [(0, .rz [.l (numC 4 ns)]), (16, .own [.sx 41 (4 + (ofL (b4 .u32 (IntKind.u32.wrap (ns.length : Nat)))).size), ci0 0] 159), (41, .gr [.y mgW, .y (b4 .u32 (IntKind.u32.wrap (ns.length : Nat)))] 5 1)] }
def ppE (out : LU0) : LState := { n := 37, sl := [(4, .p 16 0)], hp := [(16, .own [.sx 41 out.length, ci0 0] 159), (41, .gr [.y out] 5 1)] }
theorem ZB (ns : List Nat) : qw (ppJ ns).aa (ppI ns (pubB ns 0) ((0 : Nat) : Int)) [] := by
 have e : qw (ppJ ns).aa (ppI ns (pubB ns 0) ((0 : Nat) : Int)) [] = (((tk 0) /\ (true = true /\ ns.length = ns.length) /\ (Value.int .i64 ((ns.length : Nat) : Int)) = (Value.int .i64 ((ns.length : Nat) : Int)) /\ (Value.int .i64 0) = (Value.int .i64 ((0 : Nat) : Int)) /\ True) /\ (flat [.l (numC 4 ns)] = flat [.l (numC 4 ns)] /\ (159 = 159 /\ (true = true /\ 4 + (ofL (b4 .u32 (IntKind.u32.wrap (ns.length : Nat)))).size = (pubB ns 0).length) /\ (LM (.int .i64 0)) /\ True) /\ ((5 = 5 /\ 1 = 1) /\ flat [.y mgW, .y (b4 .u32 (IntKind.u32.wrap (ns.length : Nat)))] = flat [.y (pubB ns 0)]) /\ True)) := by kernel_rfl
 rw [e]
 exact ⟨⟨rr0, rr0, rfl, rfl, tt0⟩, ⟨rfl, ⟨rfl, ⟨rfl, by rw [DT]; rfl⟩, r30, tt0⟩, ⟨rr0, by rw [DT, rp]; simp [flat, Ch.cells]⟩, tt0⟩⟩
def yS : Ora := { ch := 0, hi := fun _ => 0, ex := 1 }
theorem SZ (ns : List Nat) (hm : ns.length <= 1000000) (i x : Nat) (hx : ns[i]? = some x) (hb : sm4 ns) : Sound prog 0 false (pS f16 0) (ppI ns (pubB ns i) (i : Int)).aa .normal (ppI ns (pubB ns (i + 1)) ((i + 1 : Nat) : Int)).aa := by
 have hi := Ao hx
 exact qT (P := prog) (X := pN _) (env := [uM, wR]) ⟨te, sU, tt0⟩ (n := 1) (os := oL [(48, wT), (49, rO 14 i), (50, { ch := 0, hi := fun _ => 0, ru := 8, cs := fun _ => [.n 4 x] }), (73, yS)]) (fb := 0) (rd := false) (c := (pS f16 0)) (k := 48) (I := ppI ns (pubB ns i) (i : Int)) (J := ppI ns (pubB ns (i + 1)) ((i + 1 : Nat) : Int)) (τ := [(41, 73)]) (ex := .normal) (by kernel_rfl) (ai (show ((tk 0) /\ (true = true /\ ns.length = ns.length) /\ (Value.int .i64 ((ns.length : Nat) : Int)) = (Value.int .i64 ((ns.length : Nat) : Int)) /\ (Value.int .i64 (IntKind.i64.wrap ((i : Int) + 1))) = (Value.int .i64 ((i + 1 : Nat) : Int)) /\ True) /\ (flat [.l (numC 4 ns)] = flat [.l (numC 4 ns)] /\ (159 = 159 /\ (true = true /\ (pubB ns i).length + (ofL (qL x)).size = (pubB ns (i + 1)).length) /\ (LM (.int .i64 0)) /\ True) /\ ((5 = 5 /\ 1 = 1) /\ flat [.y (pubB ns i), .y (qL x)] = flat [.y (pubB ns (i + 1))]) /\ True) from ⟨⟨rr0, rr0, rfl, by rw [show IntKind.i64.wrap ((i : Int) + 1) = ((i + 1 : Nat) : Int) by rw [p6]; omega], tt0⟩, ⟨rfl, ⟨rfl, ⟨rfl, by rw [EA hx, List.length_append]; rfl⟩, r30, tt0⟩, ⟨rr0, by rw [EA hx, rp]; simp [flat, Ch.cells]⟩, tt0⟩⟩) (ai (show qd [.y (pubB ns i)] = ((pubB ns i).length) * 1 /\ (pubB ns i).length + (ofL (qL x)).size <= 9223372036854775807 /\ ((pubB ns i).length + (ofL (qL x)).size) * 1 <= 140737488355328 /\ True from by
    have h1 := I0 ns i
    have h2 : (ofL (qL x)).size = 32 := rE x
    refine ⟨?_, ?_, ?_, tt0⟩ <;> (try simp only [qd, Ch.size]) <;> omega) (ai (show DG (.inr x) from hb x (yj hx)) (ai (Cw ns i x hx) (ai (show (i : Int) = ((i : Nat) : Int) /\ i < ns.length from ⟨rfl, hi⟩) (ai (show decide ((i : Int) < ((ns.length : Nat) : Int)) = true from decide_eq_true (by omega)) tt0))))))
theorem Cp {c : Code} {I L : LState} {ex : Ex} {b : Prop} (o : LO0) (k : Nat) (sk hk : List Nat) (hb : b) (h : uW prog (pN _) [] 0 (oL o) 0 false c k I sk hk [] = some (ex, L, b) := by kernel_rfl) : Sound prog 0 false c I.aa ex L.aa := pR (P := prog) (X := pN _) (env := []) trivial h hb
theorem Zu (ns : List Nat) (out : LU0) : Sound prog 0 false (pS f16 0) (ppI ns out ((ns.length : Nat) : Int)).aa (.exit 0) (ppE out).aa :=
 Cp [(48, wF)] 48 [4] [16, 41] (ai (show decide (((ns.length : Nat) : Int) < ((ns.length : Nat) : Int)) = false from decide_eq_false (by omega)) tt0)
theorem Zr (ns : List Nat) (hm : ns.length <= 1000000) (hb : sm4 ns) : Sound prog 0 false (.loop (pS f16 0)) (ppI ns (pubB ns 0) ((0 : Nat) : Int)).aa (.exit 0) (ppE (pubB ns ns.length)).aa := by
 refine qk (m := fun y : { i : Nat // i <= ns.length } => ns.length - y.val) (fun y => ppI ns (pubB ns y.val) (y.val : Int)) (by simp) (fun y => ?_) ⟨0, by omega⟩
 obtain ⟨i, hi⟩ := y
 by_cases e : i < ns.length
 ·obtain ⟨x, hx⟩ := GM e
  exact .inl ⟨⟨i + 1, e⟩, by show ns.length - (i + 1) < ns.length - i; omega, SZ ns hm i x hx hb⟩
 ·have e : i = ns.length := by omega
  subst e
  exact .inr (Zu ns _)
theorem Zd (ns : List Nat) (h : ns.length <= 64) (hb : sm4 ns) (hc : rB ns) : Gives prog 16 [.rz [.l (numC 4 ns)] ns.length] (.tp [.v (.string (ofL (pubB ns ns.length))), vi0 0]) :=
 pL (P := prog) (X := pN _) (env := [uM, wR]) ⟨te, sU, tt0⟩ func16 1 (oL [(5, wF), (8, { ch := 0, hi := fun _ => 0, ex := 7, av := fun _ => .v (.bool true) }), (14, { ch := 0, hi := fun _ => 0, ex := 2, cs := fun _ => [.y mgW] }), (48, lpO { I := ppJ ns, ex := .exit 0, E := ppE (pubB ns ns.length), fr := 49 }), (62, { ch := 0, hi := fun _ => 0, ru := 10, av := fun _ => .v (.string (ofL (pubB ns ns.length))) })]) (by kernel_rfl) ⟨_, rfl⟩ (ai (show (flat [.y (pubB ns ns.length)]).take (pubB ns ns.length).length = (ofL (pubB ns ns.length)).data.toList.map qK /\ (pubB ns ns.length).length = (ofL (pubB ns ns.length)).size from ⟨by rw [rp, List.take_of_length_le (by simp)]; rfl, rfl⟩) (ai (show some (ppJ ns) = some (ppJ ns) from rfl) (ai ((Zr ns (by omega) hb).pre [] (by kernel_rfl) (ZB ns)) (ai (show flat [.y mgW] = (ofL mgW).data.toList.map qK from rp mgW) (ai (show rP prog 38 [.rz [.l (numC 4 ns)] ns.length] (.v (.bool true)) from ⟨fun vs w => Go.Proofs.enters_of (P := prog) func38 (by kernel_rfl) rfl vs w, Ce ns (by omega) hb hc⟩) (ai (show decide (((ns.length : Nat) : Int) > 64) = false from decide_eq_false (by omega)) tt0))))))
def ptP (a : A1) : List Ch := [.n 6 a.1, .n 6 a.2.1, .c (.bool a.2.2)]
def ptC (a : A1) : List Value := flat (ptP a)
theorem CZ (a : A1) : (ptC a).length = 13 := by unfold ptC ptP; simp [flat, Ch.cells, sK]
def qO (ps : List A1) : List Value := ps.flatMap ptC
theorem EF (ps : List A1) (i : Nat) (a : A1) (h : ps[i]? = some a) : qd (ptP a) = 13 /\ ((flat [.l (qO ps)]).drop (i * 13)).take 13 = flat (ptP a) := by
 refine ⟨rfl, ?_⟩
 rw [CN]
 exact Cb ptC CZ ps i a h
theorem plt {ps : List A1} {i : Nat} {x : A1} (h : ps[i]? = some x) : i < ps.length := (List.getElem?_eq_some_iff.1 h).1
theorem K2 {ps : List A1} {i : Nat} {x : A1} (h : ps[i]? = some x) : x ∈ ps := List.mem_of_getElem? h
theorem pof {ps : List A1} {i : Nat} (h : i < ps.length) : ∃ x, ps[i]? = some x := ⟨_, List.getElem?_eq_getElem h⟩
def rU (ps : List A1) : LU0 := ps.flatMap p1S
def Ap (ps : List A1) : Prop := ∀ a, a ∈ ps -> sml1 a
theorem ta (ps : List A1) : (rU ps).length <= 48 * ps.length := by
 induction ps with
 | nil => exact Nat.le_refl _
 | cons a ps ih => have := Au a; simp only [rU, List.flatMap_cons, List.length_append, List.length_cons] at ih ⊢; omega
theorem yp {ps : List A1} {i : Nat} {a : A1} (h : ps[i]? = some a) : rU (ps.take (i + 1)) = rU (ps.take i) ++ p1S a := by
 rw [List.take_add_one, h]; simp [rU]
def ptE : List A1 -> Int
 | [] => 0
 | a :: l => if p1E a = 0 then ptE l else p1E a
theorem Cv : ∀ (l : List A1) (a : A1), ptE (l ++ [a]) = if ptE l = 0 then p1E a else ptE l
 | [], a => by simp only [List.nil_append, ptE]; by_cases h : p1E a = 0 <;> simp [h]
 | b :: l, a => by
  simp only [List.cons_append, ptE]
  by_cases h : p1E b = 0
  ·simp only [h, if_true]; exact Cv l a
  ·simp only [h, if_false]
theorem zH {ps : List A1} {i : Nat} {a : A1} (h : ps[i]? = some a) : ptE (ps.take (i + 1)) = if ptE (ps.take i) = 0 then p1E a else ptE (ps.take i) := by
 rw [List.take_add_one, h]; exact Cv _ a
theorem El : ∀ ps : List A1, (ptE ps = 0 /\ ∀ a, a ∈ ps -> p1E a = 0) ∨ ∃ (j : Nat) (a : A1), ps[j]? = some a /\ p1E a ≠ 0 /\ ptE ps = p1E a /\ ∀ (i : Nat) (y : A1), i < j -> ps[i]? = some y -> p1E y = 0
 | [] => .inl ⟨rfl, fun x hx => by cases hx⟩
 | n :: ns => by
  by_cases h : p1E n = 0
  ·rcases El ns with ⟨h0, h1⟩ | ⟨j, x, h1, h2, h4, h3⟩
   ·exact .inl ⟨by simp only [ptE, h, if_true]; exact h0, fun x hx => by rcases List.mem_cons.1 hx with rfl | hx; exact h; exact h1 x hx⟩
   ·refine .inr ⟨j + 1, x, h1, h2, by simp only [ptE, h, if_true]; exact h4, fun i y hi hy => ?_⟩
    match i, hy with
    | 0, hy => simp only [List.getElem?_cons_zero, oi0] at hy; subst hy; exact h
    | i + 1, hy => exact h3 i y (by omega) (by simpa using hy)
  ·exact .inr ⟨0, n, rfl, h, by simp only [ptE, h, if_false], fun i y hi => by omega⟩
end Go.Proofs.YtokjhbmmdmeafaaGreat
set_option linter.unusedSimpArgs false
set_option linter.unusedVariables false
namespace Go.Proofs.YtokjhbmmdmeafaaGreat
open Go.Ev Go.RowKit
open Tryz
def mgK : LU0 := [67, 72, 75, 49]
def qG (ps : List A1) (i : Nat) : LU0 := (mgK ++ b4 .i64 (ps.length : Nat)) ++ rU (ps.take i)
theorem yg (ps : List A1) (i : Nat) : (qG ps i).length <= 8 + 48 * ps.length := by
 unfold qG
 have h1 : mgK.length = 4 := rfl
 have h2 := ta (ps.take i)
 have h3 := List.length_take_le i ps
 have h4 : (ps.take i).length <= ps.length := by rw [List.length_take]; omega
 simp only [List.length_append, A3]
 omega
theorem yK {ps : List A1} {i : Nat} {x : A1} (h : ps[i]? = some x) : qG ps (i + 1) = qG ps i ++ p1S x := by
 unfold qG; rw [yp h]; simp
theorem DK (ps : List A1) : qG ps 0 = mgK ++ b4 .u32 (IntKind.u32.wrap (ps.length : Nat)) := by
 unfold qG; rw [w7]; simp [rU]
def kyI (ps : List A1) (b : A2) (out : LU0) (bd z : Int) : LState := { n := 44, sl := [(1, .p 7 0), (4, .p 19 0), (20, .sz 0 ps.length), (21, vi0 ((ps.length : Nat) : Int)), (22, vi0 z)], hp := [(0, .rz [.l (qO ps)]), (7, .own [.sz 0 ps.length, .n 6 b.1.1, .n 6 b.1.2, .n 6 b.2.1.1, .n 6 b.2.1.2, .c (.bool b.2.2)] 54), (19, .own [.sx 45 out.length, ci0 bd] 159), (45, .gr [.y out] 5 1)] }
def kyJ (ps : List A1) (b : A2) : LState := { n := 44, sl := [(1, .p 7 0), (4, .p 19 0), (20, .sz 0 ps.length), (21, vi0 ((ps.length : Nat) : Int)), (22, vi0 0)], hp := [(0, .rz [.l (qO ps)]), (7, .own [.sz 0 ps.length, .n 6 b.1.1, .n 6 b.1.2, .n 6 b.2.1.1, .n 6 b.2.1.2, .c (.bool b.2.2)] 54), (19, .own [.sx 45 (4 + (ofL (b4 .u32 (IntKind.u32.wrap (ps.length : Nat)))).size), ci0 0] 159), (45, .gr [.y mgK, .y (b4 .u32 (IntKind.u32.wrap (ps.length : Nat)))] 5 1)] }
def kyE (ps : List A1) (b : A2) (out : LU0) (bd : Int) : LState := { n := 44, sl := [(1, .p 7 0), (4, .p 19 0)], hp := [(0, .rz [.l (qO ps)]), (7, .own [.sz 0 ps.length, .n 6 b.1.1, .n 6 b.1.2, .n 6 b.2.1.1, .n 6 b.2.1.2, .c (.bool b.2.2)] 54), (19, .own [.sx 45 out.length, ci0 bd] 159), (45, .gr [.y out] 5 1)] }
theorem Yn (ps : List A1) (b : A2) : qw (kyJ ps b).aa (kyI ps b (qG ps 0) (ptE (ps.take 0)) ((0 : Nat) : Int)) [] := by
 have e : qw (kyJ ps b).aa (kyI ps b (qG ps 0) (ptE (ps.take 0)) ((0 : Nat) : Int)) [] = (((tk 0) /\ (tk 0) /\ (true = true /\ ps.length = ps.length) /\ (Value.int .i64 ((ps.length : Nat) : Int)) = (Value.int .i64 ((ps.length : Nat) : Int)) /\ (Value.int .i64 0) = (Value.int .i64 ((0 : Nat) : Int)) /\ True) /\ (flat [.l (qO ps)] = flat [.l (qO ps)] /\ (54 = 54 /\ (true = true /\ ps.length = ps.length) /\ (true = true /\ true = true /\ limbs 6 b.1.1 = limbs 6 b.1.1) /\ (true = true /\ true = true /\ limbs 6 b.1.2 = limbs 6 b.1.2) /\ (true = true /\ true = true /\ limbs 6 b.2.1.1 = limbs 6 b.2.1.1) /\ (true = true /\ true = true /\ limbs 6 b.2.1.2 = limbs 6 b.2.1.2) /\ (true = true /\ true = true /\ [Value.bool b.2.2] = [Value.bool b.2.2]) /\ True) /\ (159 = 159 /\ (true = true /\ 4 + (ofL (b4 .u32 (IntKind.u32.wrap (ps.length : Nat)))).size = (qG ps 0).length) /\ (true = true /\ true = true /\ [Value.int .i64 0] = [Value.int .i64 (ptE (ps.take 0))]) /\ True) /\ ((5 = 5 /\ 1 = 1) /\ flat [.y mgK, .y (b4 .u32 (IntKind.u32.wrap (ps.length : Nat)))] = flat [.y (qG ps 0)]) /\ True)) := by kernel_rfl
 rw [e]
 exact ⟨⟨rr0, rr0, rr0, rfl, rfl, tt0⟩, ⟨rfl, ⟨rfl, rr0, r30, r30, r30, r30, r30, tt0⟩, ⟨rfl, ⟨rfl, by rw [DK]; rfl⟩, ⟨rfl, rfl, by simp [ptE]⟩, tt0⟩, ⟨rr0, by rw [DK, rp]; simp [flat, Ch.cells]⟩, tt0⟩⟩
def KN (a : A1) : Ora := { ch := 0, hi := fun _ => 0, ru := 8, cs := fun _ => ptP a }
theorem S4 {c : Code} {I J : LState} {ex : Ex} {b : Prop} (o : LO0) (k : Nat) (τ : List (Nat × Nat)) (hb : b) (h : vK prog (pN _) [tK, zm, wR] 1 (oL o) 0 false c k I J τ = some (ex, b) := by kernel_rfl) : Sound prog 0 false c I.aa ex J.aa := qT (P := prog) (X := pN _) (env := [tK, zm, wR]) ⟨tg, yC, sU, tt0⟩ h hb
abbrev JJ (a : AA) (e : Ex) (b : AA) : Prop := Sound prog 0 false (pS f20 0) a e b
theorem NE (ps : List A1) (b : A2) (hm : ps.length <= 4096) (i : Nat) (a : A1) (ha : ps[i]? = some a) (hs : Ap ps) (h0 : ptE (ps.take i) = 0) : JJ (kyI ps b (qG ps i) (ptE (ps.take i)) (i : Int)).aa .normal (kyI ps b (qG ps (i + 1)) (ptE (ps.take (i + 1))) ((i + 1 : Nat) : Int)).aa := by
 have hi := plt ha
 exact S4 [(53, wT), (54, rO 14 i), (55, (KN a)), (60, wO 0), (68, wT), (80, yS)] 53 [(45, 80)] (ai (show ((tk 0) /\ (tk 0) /\ (true = true /\ ps.length = ps.length) /\ (Value.int .i64 ((ps.length : Nat) : Int)) = (Value.int .i64 ((ps.length : Nat) : Int)) /\ (Value.int .i64 (IntKind.i64.wrap ((i : Int) + 1))) = (Value.int .i64 ((i + 1 : Nat) : Int)) /\ True) /\ (flat [.l (qO ps)] = flat [.l (qO ps)] /\ (54 = 54 /\ (true = true /\ ps.length = ps.length) /\ (true = true /\ true = true /\ limbs 6 b.1.1 = limbs 6 b.1.1) /\ (true = true /\ true = true /\ limbs 6 b.1.2 = limbs 6 b.1.2) /\ (true = true /\ true = true /\ limbs 6 b.2.1.1 = limbs 6 b.2.1.1) /\ (true = true /\ true = true /\ limbs 6 b.2.1.2 = limbs 6 b.2.1.2) /\ (true = true /\ true = true /\ [Value.bool b.2.2] = [Value.bool b.2.2]) /\ True) /\ (159 = 159 /\ (true = true /\ (qG ps i).length + (ofL (p1S a)).size = (qG ps (i + 1)).length) /\ (true = true /\ true = true /\ [Value.int .i64 (p1E a)] = [Value.int .i64 (ptE (ps.take (i + 1)))]) /\ True) /\ ((5 = 5 /\ 1 = 1) /\ flat [.y (qG ps i), .y (p1S a)] = flat [.y (qG ps (i + 1))]) /\ True) from ⟨⟨rr0, rr0, rr0, rfl, by rw [show IntKind.i64.wrap ((i : Int) + 1) = ((i + 1 : Nat) : Int) by rw [p6]; omega], tt0⟩, ⟨rfl, ⟨rfl, rr0, r30, r30, r30, r30, r30, tt0⟩, ⟨rfl, ⟨rfl, by rw [yK ha, List.length_append]; rfl⟩, ⟨rfl, rfl, by rw [zH ha, if_pos h0]⟩, tt0⟩, ⟨rr0, by rw [yK ha, rp]; simp [flat, Ch.cells]⟩, tt0⟩⟩) (ai (show qd [.y (qG ps i)] = ((qG ps i).length) * 1 /\ (qG ps i).length + (ofL (p1S a)).size <= 9223372036854775807 /\ ((qG ps i).length + (ofL (p1S a)).size) * 1 <= 140737488355328 /\ True from by
    have h1 := yg ps i
    have h2 : (ofL (p1S a)).size <= 48 := Au a
    refine ⟨?_, ?_, ?_, tt0⟩ <;> (try simp only [qd, Ch.size]) <;> omega) (ai (show (ptE (ps.take i) == 0) = true from by simpa using h0) (ai (show sml1 a from hs a (K2 ha)) (ai (EF ps i a ha) (ai (show (i : Int) = ((i : Nat) : Int) /\ i < ps.length from ⟨rfl, hi⟩) (ai (show decide ((i : Int) < ((ps.length : Nat) : Int)) = true from decide_eq_true (by omega)) tt0)))))))
theorem MU (ps : List A1) (b : A2) (hm : ps.length <= 4096) (i : Nat) (a : A1) (ha : ps[i]? = some a) (hs : Ap ps) (h0 : ptE (ps.take i) ≠ 0) : JJ (kyI ps b (qG ps i) (ptE (ps.take i)) (i : Int)).aa .normal (kyI ps b (qG ps (i + 1)) (ptE (ps.take (i + 1))) ((i + 1 : Nat) : Int)).aa := by
 have hi := plt ha
 exact S4 [(53, wT), (54, rO 14 i), (55, (KN a)), (60, wO 0), (68, wF), (75, yS)] 53 [(45, 75)] (ai (show ((tk 0) /\ (tk 0) /\ (true = true /\ ps.length = ps.length) /\ (Value.int .i64 ((ps.length : Nat) : Int)) = (Value.int .i64 ((ps.length : Nat) : Int)) /\ (Value.int .i64 (IntKind.i64.wrap ((i : Int) + 1))) = (Value.int .i64 ((i + 1 : Nat) : Int)) /\ True) /\ (flat [.l (qO ps)] = flat [.l (qO ps)] /\ (54 = 54 /\ (true = true /\ ps.length = ps.length) /\ (true = true /\ true = true /\ limbs 6 b.1.1 = limbs 6 b.1.1) /\ (true = true /\ true = true /\ limbs 6 b.1.2 = limbs 6 b.1.2) /\ (true = true /\ true = true /\ limbs 6 b.2.1.1 = limbs 6 b.2.1.1) /\ (true = true /\ true = true /\ limbs 6 b.2.1.2 = limbs 6 b.2.1.2) /\ (true = true /\ true = true /\ [Value.bool b.2.2] = [Value.bool b.2.2]) /\ True) /\ (159 = 159 /\ (true = true /\ (qG ps i).length + (ofL (p1S a)).size = (qG ps (i + 1)).length) /\ (true = true /\ true = true /\ [Value.int .i64 (ptE (ps.take i))] = [Value.int .i64 (ptE (ps.take (i + 1)))]) /\ True) /\ ((5 = 5 /\ 1 = 1) /\ flat [.y (qG ps i), .y (p1S a)] = flat [.y (qG ps (i + 1))]) /\ True) from ⟨⟨rr0, rr0, rr0, rfl, by rw [show IntKind.i64.wrap ((i : Int) + 1) = ((i + 1 : Nat) : Int) by rw [p6]; omega], tt0⟩, ⟨rfl, ⟨rfl, rr0, r30, r30, r30, r30, r30, tt0⟩, ⟨rfl, ⟨rfl, by rw [yK ha, List.length_append]; rfl⟩, ⟨rfl, rfl, by rw [zH ha, if_neg h0]⟩, tt0⟩, ⟨rr0, by rw [yK ha, rp]; simp [flat, Ch.cells]⟩, tt0⟩⟩) (ai (show qd [.y (qG ps i)] = ((qG ps i).length) * 1 /\ (qG ps i).length + (ofL (p1S a)).size <= 9223372036854775807 /\ ((qG ps i).length + (ofL (p1S a)).size) * 1 <= 140737488355328 /\ True from by
    have h1 := yg ps i
    have h2 : (ofL (p1S a)).size <= 48 := Au a
    refine ⟨?_, ?_, ?_, tt0⟩ <;> (try simp only [qd, Ch.size]) <;> omega) (ai (show (ptE (ps.take i) == 0) = false from by simpa using h0) (ai (show sml1 a from hs a (K2 ha)) (ai (EF ps i a ha) (ai (show (i : Int) = ((i : Nat) : Int) /\ i < ps.length from ⟨rfl, hi⟩) (ai (show decide ((i : Int) < ((ps.length : Nat) : Int)) = true from decide_eq_true (by omega)) tt0)))))))
theorem Zw (ps : List A1) (b : A2) (out : LU0) (bd : Int) : JJ (kyI ps b out bd ((ps.length : Nat) : Int)).aa (.exit 0) (kyE ps b out bd).aa :=
 Cp [(53, wF)] 53 [1, 4] [0, 7, 19, 45] (ai (show decide (((ps.length : Nat) : Int) < ((ps.length : Nat) : Int)) = false from decide_eq_false (by omega)) tt0)
theorem YO (ps : List A1) (b : A2) (hm : ps.length <= 4096) (hs : Ap ps) : Sound prog 0 false (.loop (pS f20 0)) (kyI ps b (qG ps 0) (ptE (ps.take 0)) ((0 : Nat) : Int)).aa (.exit 0) (kyE ps b (qG ps ps.length) (ptE ps)).aa := by
 refine qk (m := fun y : { i : Nat // i <= ps.length } => ps.length - y.val) (fun y => kyI ps b (qG ps y.val) (ptE (ps.take y.val)) (y.val : Int)) (by simp) (fun y => ?_) ⟨0, by omega⟩
 obtain ⟨i, hi⟩ := y
 by_cases e : i < ps.length
 ·obtain ⟨x, hx⟩ := pof e
  refine .inl ⟨⟨i + 1, e⟩, by show ps.length - (i + 1) < ps.length - i; omega, ?_⟩
  by_cases h0 : ptE (ps.take i) = 0
  ·exact NE ps b hm i x hx hs h0
  ·exact MU ps b hm i x hx hs h0
 ·have e : i = ps.length := by omega
  subst e
  refine .inr ?_
  show Sound prog 0 false _ (kyI ps b (qG ps ps.length) (ptE (ps.take ps.length)) _).aa _ _
  rw [List.take_length]
  exact Zw ps b _ _
theorem Qv (a b : LU0) : (flat [.y a, .y b]).take (a.length + (ofL b).size) = (ofL (a ++ b)).data.toList.map qK /\ a.length + (ofL b).size = (ofL (a ++ b)).size := by
 have e : (ofL b).size = b.length := rfl
 have e2 : (ofL (a ++ b)).size = (a ++ b).length := rfl
 rw [e, e2, List.length_append]
 refine ⟨?_, rfl⟩
 have e3 : flat [.y a, .y b] = (a ++ b).map qK := by simp [flat, Ch.cells]
 rw [e3, List.take_of_length_le (by simp)]
 rfl
theorem Z7 (ps : List A1) (b : A2) (hm : ps.length <= 4096) (hs : Ap ps) (hb : sml2 b) (h1 : ptE ps = 0) (h2 : p2E b = 0) : Gives prog 20 [.ags [.z [.l (qO ps)] ps.length, .c (.n 6 b.1.1), .c (.n 6 b.1.2), .c (.n 6 b.2.1.1), .c (.n 6 b.2.1.2), .c (.c (.bool b.2.2))]] (.tp [.v (.string (ofL ((qG ps ps.length) ++ p2S b))), vi0 0]) :=
 pL (P := prog) (X := pN _) (env := [tK, zm, wR]) ⟨tg, yC, sU, tt0⟩ func20 1 (oL [(13, wF), (17, { ch := 0, hi := fun _ => 0, ex := 2, cs := fun _ => [.y mgK] }), (53, lpO { I := kyJ ps b, ex := .exit 0, E := kyE ps b (qG ps ps.length) (ptE ps), fr := 54 }), (57, wO 0), (65, wT), (77, yS), (89, wF), (94, { ch := 0, hi := fun _ => 0, ru := 10, av := fun _ => .v (.string (ofL ((qG ps ps.length) ++ p2S b))) })]) (by kernel_rfl) ⟨_, rfl⟩ (ai (show (flat [.y (qG ps ps.length), .y (p2S b)]).take ((qG ps ps.length).length + (ofL (p2S b)).size) = (ofL ((qG ps ps.length) ++ p2S b)).data.toList.map qK /\ (qG ps ps.length).length + (ofL (p2S b)).size = (ofL ((qG ps ps.length) ++ p2S b)).size from Qv _ _) (ai (show (p2E b != 0) = false from by rw [h2]; rfl) (ai (show qd [.y (qG ps ps.length)] = ((qG ps ps.length).length) * 1 /\ (qG ps ps.length).length + (ofL (p2S b)).size <= 9223372036854775807 /\ ((qG ps ps.length).length + (ofL (p2S b)).size) * 1 <= 140737488355328 /\ True from by
    have h1 := yg ps ps.length
    have h2 : (ofL (p2S b)).size <= 96 := FJ b
    refine ⟨?_, ?_, ?_, tt0⟩ <;> (try simp only [qd, Ch.size]) <;> omega) (ai (show (ptE ps == 0) = true from by simpa using h1) (ai (show sml2 b from hb) (ai (show some (kyJ ps b) = some (kyJ ps b) from rfl) (ai ((YO ps b hm hs).pre [] (by kernel_rfl) (Yn ps b)) (ai (show flat [.y mgK] = (ofL mgK).data.toList.map qK from rp mgK) (ai (show decide (((ps.length : Nat) : Int) > 4096) = false from decide_eq_false (by omega)) tt0)))))))))
end Go.Proofs.YtokjhbmmdmeafaaGreat
set_option linter.unusedSimpArgs false
set_option linter.unusedVariables false
namespace Go.Proofs.YtokjhbmmdmeafaaGreat
open Go.Ev Go.RowKit
open Tryz
structure VT where
 l : Int
 p : Int
 q0 : A1
 q1 : A1
 q2 : A1
 q3 : A1
 q4 : A1
 s0 : A1
 s1 : A1
 s2 : A1
 b : A2
def VT.pts (v : VT) : List A1 := [v.q0, v.q1, v.q2, v.q3, v.q4, v.s0, v.s1, v.s2]
def VT.ch (v : VT) : List Ch := [ci0 v.l, ci0 v.p, .n 6 v.q0.1, .n 6 v.q0.2.1, .c (.bool v.q0.2.2), .n 6 v.q1.1, .n 6 v.q1.2.1, .c (.bool v.q1.2.2), .n 6 v.q2.1, .n 6 v.q2.2.1, .c (.bool v.q2.2.2), .n 6 v.q3.1, .n 6 v.q3.2.1, .c (.bool v.q3.2.2), .n 6 v.q4.1, .n 6 v.q4.2.1, .c (.bool v.q4.2.2), .n 6 v.s0.1, .n 6 v.s0.2.1, .c (.bool v.s0.2.2), .n 6 v.s1.1, .n 6 v.s1.2.1, .c (.bool v.s1.2.2), .n 6 v.s2.1, .n 6 v.s2.2.1, .c (.bool v.s2.2.2), .n 6 v.b.1.1, .n 6 v.b.1.2, .n 6 v.b.2.1.1, .n 6 v.b.2.1.2, .c (.bool v.b.2.2)]
def VT.pc (v : VT) : List Ch := [.n 6 v.q0.1, .n 6 v.q0.2.1, .c (.bool v.q0.2.2), .n 6 v.q1.1, .n 6 v.q1.2.1, .c (.bool v.q1.2.2), .n 6 v.q2.1, .n 6 v.q2.2.1, .c (.bool v.q2.2.2), .n 6 v.q3.1, .n 6 v.q3.2.1, .c (.bool v.q3.2.2), .n 6 v.q4.1, .n 6 v.q4.2.1, .c (.bool v.q4.2.2), .n 6 v.s0.1, .n 6 v.s0.2.1, .c (.bool v.s0.2.2), .n 6 v.s1.1, .n 6 v.s1.2.1, .c (.bool v.s1.2.2), .n 6 v.s2.1, .n 6 v.s2.2.1, .c (.bool v.s2.2.2)]
def VT.sm (v : VT) : Prop := Ap v.pts /\ sml2 v.b
theorem VT.pc_flat (v : VT) : flat v.pc = flat [.l (qO v.pts)] := by
 simp [VT.pc, VT.pts, qO, ptC, ptP, flat, Ch.cells]
def spJ (v : VT) (out : LU0) : LState := { n := 71, sl := [(1, .p 0 0), (4, .v (.string (ofL out))), (41, .sx 30 8), (42, vi0 8), (43, vi0 0)], hp := [(0, .own v.ch 41), (30, .gr v.pc 26 13)] }
def spI (v : VT) (C : List Value) (out : LU0) (z : Int) : LState := { n := 71, sl := [(1, .p 0 0), (4, .v (.string (ofL out))), (41, .sx 30 8), (42, vi0 8), (43, vi0 z)], hp := [(0, .own v.ch 41), (30, .gr [.l C] 26 13)] }
def spE (v : VT) (out : LU0) : LState := { n := 71, sl := [(1, .p 0 0), (4, .v (.string (ofL out)))], hp := [(0, .own v.ch 41)] }
def spF (e : Int) : LState := { n := 71, sl := [(2, .v (.string (ofL []))), (3, vi0 e)], hp := [] }
abbrev Ke (a : AA) (e : Ex) (b : AA) : Prop := Sound prog 0 false (pS f44 0) a e b
theorem Hw (v : VT) (ps : List A1) (hn : ps.length = 8) (hs : Ap ps) (i : Nat) (a : A1) (ha : ps[i]? = some a) (h0 : p1E a = 0) (out : LU0) (ho : out.length <= 1000000) : Ke (spI v (qO ps) out (i : Int)).aa .normal (spI v (qO ps) (out ++ p1S a) ((i + 1 : Nat) : Int)).aa := by
 have hi := plt ha
 rw [hn] at hi
 have hs := pR (P := prog) (X := pN _) (env := [tK]) ⟨tg, tt0⟩ (n := 0) (os := oL [(37, wT), (38, rO 9 i), (39, { ch := 0, hi := fun _ => 0, ru := 8, cs := fun _ => ptP a }), (43, wO 0), (50, wF), (53, rO 6 0)]) (fb := 0) (rd := false) (c := (pS f44 0)) (k := 37) (I := spI v (qO ps) out (i : Int)) (sk := [1, 4, 41, 42, 43]) (hk := [0, 30]) (lk := []) (ex := .normal)
  (L := spI v (qO ps) (out ++ p1S a) (IntKind.i64.wrap ((i : Int) + 1))) (by kernel_rfl) (ai (show (ofL out).size + (ofL (p1S a)).size <= 9223372036854775807 from by
    have h1 := Au a
    show out.length + (p1S a).length <= _
    omega) (ai (show (p1E a != 0) = false from by rw [h0]; rfl) (ai (show sml1 a from hs a (K2 ha)) (ai (EF ps i a ha) (ai (show (i : Int) = ((i : Nat) : Int) /\ i < 8 from ⟨rfl, hi⟩) (ai (show decide ((i : Int) < 8) = true from decide_eq_true (by omega)) tt0))))))
 rw [show IntKind.i64.wrap ((i : Int) + 1) = ((i + 1 : Nat) : Int) by rw [p6]; omega] at hs
 exact hs
theorem ZQ (v : VT) (ps : List A1) (hn : ps.length = 8) (hs : Ap ps) (out : LU0) (i : Nat) (a : A1) (ha : ps[i]? = some a) (h0 : p1E a ≠ 0) : Ke (spI v (qO ps) out (i : Int)).aa .ret (spF (p1E a)).aa := by
 have hi := plt ha
 rw [hn] at hi
 exact pR (P := prog) (X := pN _) (env := [tK]) ⟨tg, tt0⟩ (n := 0) (os := oL [(37, wT), (38, rO 9 i), (39, (KN a)), (43, wO 0), (50, wT)]) (fb := 0) (rd := false) (c := (pS f44 0)) (k := 37) (I := spI v (qO ps) out (i : Int)) (sk := [2, 3]) (hk := []) (lk := []) (ex := .ret)
  (L := spF (p1E a)) (by kernel_rfl) (ai (show (p1E a != 0) = true from by simpa using h0) (ai (show sml1 a from hs a (K2 ha)) (ai (EF ps i a ha) (ai (show (i : Int) = ((i : Nat) : Int) /\ i < 8 from ⟨rfl, hi⟩) (ai (show decide ((i : Int) < 8) = true from decide_eq_true (by omega)) tt0)))))
theorem aaB (v : VT) (ps : List A1) (out : LU0) : Ke (spI v (qO ps) out 8).aa (.exit 0) (spE v out).aa :=
 Cp [] 37 [1, 4] [0] trivial
abbrev Gy (a : AA) (e : Ex) (b : AA) : Prop := Sound prog 0 false (.loop (pS f44 0)) a e b
theorem Yk (v : VT) (ps : List A1) (hn : ps.length = 8) (hs : Ap ps) (hc : ∀ a, a ∈ ps -> p1E a = 0) (o0 : LU0) (h0 : o0.length <= 1000) : Gy (spI v (qO ps) o0 0).aa (.exit 0) (spE v (o0 ++ rU ps)).aa := by
 have hh := qk (P := prog) (fb := 0) (rd := false) (body := (pS f44 0)) (ex := .exit 0) (E := spE v (o0 ++ rU (ps.take 8))) (m := fun y : { i : Nat // i <= 8 } => 8 - y.val) (fun y => spI v (qO ps) (o0 ++ rU (ps.take y.val)) (y.val : Int)) (by simp) (fun y => ?_) ⟨0, by omega⟩
 ·have e1 : ps.take 8 = ps := List.take_of_length_le (by omega)
  have e2 : o0 ++ rU (ps.take 0) = o0 := by simp [rU]
  have h2 : Gy (spI v (qO ps) (o0 ++ rU (ps.take 0)) 0).aa (.exit 0) (spE v (o0 ++ rU (ps.take 8))).aa := hh
  rw [e1, e2] at h2
  exact h2
 obtain ⟨i, hi⟩ := y
 by_cases e : i < 8
 ·obtain ⟨x, hx⟩ := pof (show i < ps.length by omega)
  have h1 := Hw v ps hn hs i x hx (hc x (K2 hx)) (o0 ++ rU (ps.take i)) (by have := ta (ps.take i); have := List.length_take_le i ps; rw [List.length_append]; have : (ps.take i).length <= 8 := (by rw [List.length_take]; omega); omega)
  rw [List.append_assoc, ← yp hx] at h1
  exact .inl ⟨⟨i + 1, e⟩, by show 8 - (i + 1) < 8 - i; omega, h1⟩
 ·have e : i = 8 := by omega
  subst e
  exact .inr (aaB v ps _)
theorem acY (v : VT) (ps : List A1) (hn : ps.length = 8) (hs : Ap ps) (j : Nat) (x : A1) (hj : ps[j]? = some x) (hx : p1E x ≠ 0) (hp : ∀ (i : Nat) (y : A1), i < j -> ps[i]? = some y -> p1E y = 0) (o0 : LU0) (h0 : o0.length <= 1000) : Gy (spI v (qO ps) o0 0).aa .ret (spF (p1E x)).aa := by
 have hh := qk (P := prog) (fb := 0) (rd := false) (body := (pS f44 0)) (ex := .ret) (E := spF (p1E x)) (m := fun y : { i : Nat // i <= j } => j - y.val) (fun y => spI v (qO ps) (o0 ++ rU (ps.take y.val)) (y.val : Int)) (by simp) (fun y => ?_) ⟨0, by omega⟩
 ·have e2 : o0 ++ rU (ps.take 0) = o0 := by simp [rU]
  have h2 : Gy (spI v (qO ps) (o0 ++ rU (ps.take 0)) 0).aa .ret (spF (p1E x)).aa := hh
  rw [e2] at h2
  exact h2
 obtain ⟨i, hi⟩ := y
 by_cases e : i < j
 ·obtain ⟨g, hg⟩ := pof (show i < ps.length by have := plt hj; omega)
  have h1 := Hw v ps hn hs i g hg (hp i g e hg) (o0 ++ rU (ps.take i)) (by have := ta (ps.take i); have := List.length_take_le i ps; rw [List.length_append]; have : (ps.take i).length <= 8 := (by rw [List.length_take]; omega); omega)
  rw [List.append_assoc, ← yp hg] at h1
  exact .inl ⟨⟨i + 1, by omega⟩, by show j - (i + 1) < j - i; omega, h1⟩
 ·have e : i = j := by omega
  subst e
  exact .inr (ZQ v ps hn hs _ i x hj hx)
def spR (v : VT) (out : LU0) : LState := { n := 71, sl := [(1, .p 0 0), (4, .v (.string (ofL out)))], hp := [(0, .own v.ch 41)] }
theorem Nx (v : VT) (out : LU0) : Sound prog 0 false (Bl f44 0) (spR v out).aa .normal (spJ v out).aa := by
 have hL : True /\ (some (spJ v out) = some (spJ v out)) := ⟨tt0, rfl⟩
 exact qn (P := prog) (X := pN _) (env := []) trivial (rH (P := prog) (X := pN _) (env := []) (os := oL []) trivial 0) (os := oL []) (fb := 0) (k := 30) (I := spR v out) (E := spJ v out) (by kernel_rfl) (ai (ai (ai (ai (ai (ai (ai hL tt0) (ai (ai hL tt0) tt0)) (ai (ai (ai hL tt0) tt0) tt0)) (ai (ai (ai (ai hL tt0) tt0) tt0) tt0)) (ai (ai (ai (ai (ai hL tt0) tt0) tt0) tt0) tt0)) (ai (ai (ai (ai (ai (ai hL tt0) (ai (ai hL tt0) tt0)) (ai (ai (ai hL tt0) tt0) tt0)) (ai (ai (ai (ai hL tt0) tt0) tt0) tt0)) (ai (ai (ai (ai (ai hL tt0) (ai (ai hL tt0) tt0)) (ai (ai (ai hL tt0) tt0) tt0)) (ai (ai (ai (ai hL tt0) tt0) tt0) tt0)) (ai (ai (ai (ai (ai hL tt0) tt0) tt0) (ai (ai (ai (ai hL tt0) tt0) tt0) tt0)) tt0))) (ai (ai (ai (ai (ai (ai hL tt0) tt0) tt0) tt0) (ai (ai (ai (ai (ai hL tt0) tt0) tt0) (ai (ai (ai (ai hL tt0) tt0) tt0) tt0)) tt0)) tt0))) (ai (ai (ai (ai (ai (ai (ai hL tt0) (ai (ai hL tt0) tt0)) (ai (ai (ai hL tt0) tt0) tt0)) (ai (ai (ai (ai hL tt0) tt0) tt0) tt0)) (ai (ai (ai (ai (ai hL tt0) (ai (ai hL tt0) tt0)) (ai (ai (ai hL tt0) tt0) tt0)) (ai (ai (ai (ai hL tt0) tt0) tt0) tt0)) (ai (ai (ai (ai (ai hL tt0) tt0) tt0) (ai (ai (ai (ai hL tt0) tt0) tt0) tt0)) tt0))) (ai (ai (ai (ai (ai (ai hL tt0) (ai (ai hL tt0) tt0)) (ai (ai (ai hL tt0) tt0) tt0)) (ai (ai (ai (ai hL tt0) tt0) tt0) tt0)) (ai (ai (ai (ai (ai hL tt0) tt0) tt0) tt0) tt0)) (ai (ai (ai (ai (ai (ai hL tt0) tt0) tt0) (ai (ai (ai (ai hL tt0) tt0) tt0) tt0)) (ai (ai (ai (ai (ai hL tt0) tt0) tt0) tt0) tt0)) tt0))) (ai (ai (ai (ai (ai (ai (ai hL tt0) tt0) tt0) tt0) (ai (ai (ai (ai (ai hL tt0) tt0) tt0) (ai (ai (ai (ai hL tt0) tt0) tt0) tt0)) tt0)) (ai (ai (ai (ai (ai (ai hL tt0) tt0) tt0) (ai (ai (ai (ai hL tt0) tt0) tt0) tt0)) (ai (ai (ai (ai (ai hL tt0) tt0) tt0) tt0) tt0)) tt0)) tt0)))
theorem YI (v : VT) (ps : List A1) (hp : flat v.pc = flat [.l (qO ps)]) (out : LU0) : qw (spJ v out).aa (spI v (qO ps) out 0) [] := by
 have e : qw (spJ v out).aa (spI v (qO ps) out 0) [] = (((tk 0) /\ (Value.string (ofL out)) = (Value.string (ofL out)) /\ (tk 8) /\ (WU (.int .i64 8)) /\ (WU (.int .i64 0)) /\ True) /\ ((41 = 41 /\ flat v.ch = flat v.ch) /\ ((26 = 26 /\ 13 = 13) /\ flat v.pc = flat [.l (qO ps)]) /\ True)) := by kernel_rfl
 rw [e]
 exact ⟨⟨rr0, rfl, rr0, rfl, rfl, tt0⟩, rr0, ⟨rr0, hp⟩, tt0⟩
def spO (v : VT) : LU0 := [UInt8.ofNat (IntKind.u8.wrap v.l).toNat, UInt8.ofNat (IntKind.u8.wrap v.p).toNat]
def Oo (v : VT) : Prop := 0 <= v.l /\ v.l <= 255 /\ 0 <= v.p /\ v.p <= 255
instance (v : VT) : Decidable (Oo v) := by unfold Oo; infer_instance
def tN (v : VT) : Int := if Oo v then (if ptE v.pts = 0 then p2E v.b else ptE v.pts) else 1
def spS (v : VT) : LU0 := if tN v = 0 then spO v ++ rU v.pts ++ p2S v.b else []
abbrev Cz : AV := .tp [.v (.string (ofL [])), vi0 1]
theorem ze {a : List XV} {r : AV} {b : Prop} (o : LO0) (hb : b) (h : fnA prog (pN _) [tK, zm] 1 (oL o) f44 a = some (r, b) := by kernel_rfl) (hv : ∃ v, r.val? = some v := by exact ⟨_, rfl⟩) : Gives prog 44 a r := pL (P := prog) (X := pN _) (env := [tK, zm]) ⟨tg, yC, tt0⟩ func44 1 (oL o) h hv hb
theorem VI (v : VT)  (h : v.l < 0) : Gives prog 44 [.t (.ag v.ch)] Cz :=
 ze [(5, wT)] (ai (show decide (v.l < 0) = true from decide_eq_true h) tt0)
theorem VG (v : VT) (h0 : ¬ v.l < 0) (h : v.l > 255) : Gives prog 44 [.t (.ag v.ch)] Cz :=
 ze [(5, wF), (9, wT)] (ai (show decide (v.l > 255) = true from decide_eq_true h) (ai (show decide (v.l < 0) = false from decide_eq_false h0) tt0))
def Rn {v : VT} (h0 : ¬ v.l < 0) (h1 : ¬ v.l > 255) := PLift.up (ai (show decide (v.l > 255) = false from decide_eq_false h1) (ai (show decide (v.l < 0) = false from decide_eq_false h0) tt0))
theorem UM (v : VT) (h0 : ¬ v.l < 0) (h1 : ¬ v.l > 255) (h : v.p < 0) : Gives prog 44 [.t (.ag v.ch)] Cz :=
 ze [(5, wF), (9, wF), (14, wT)] (ai (show decide (v.p < 0) = true from decide_eq_true h)
   (Rn h0 h1).down)
theorem Wa (v : VT) (h0 : ¬ v.l < 0) (h1 : ¬ v.l > 255) (h2 : ¬ v.p < 0) (h : v.p > 255) : Gives prog 44 [.t (.ag v.ch)] Cz :=
 ze [(5, wF), (9, wF), (14, wF), (19, wT)] (ai (show decide (v.p > 255) = true from decide_eq_true h) (ai (show decide (v.p < 0) = false from decide_eq_false h2)
   (Rn h0 h1).down))
abbrev wW (v : VT) := IntKind.u8.wrap v.p
abbrev wU (v : VT) := IntKind.u8.wrap v.l
def W3 {v : VT} (n0 : ¬ v.l < 0) (n1 : ¬ v.l > 255) (n2 : ¬ v.p < 0) (n3 : ¬ v.p > 255) := PLift.up (ai (show some (spR v [UInt8.ofNat (wU v).toNat, UInt8.ofNat (wW v).toNat]) = some (spR v [UInt8.ofNat (wU v).toNat, UInt8.ofNat (wW v).toNat]) from rfl) (ai (Nx v [UInt8.ofNat (wU v).toNat, UInt8.ofNat (wW v).toNat]) (ai (show decide (v.p > 255) = false from decide_eq_false n3) (ai (show decide (v.p < 0) = false from decide_eq_false n2) (ai (show decide (v.l > 255) = false from decide_eq_false n1) (ai (show decide (v.l < 0) = false from decide_eq_false n0) tt0))))))
def Pl (v : VT) : Nat × Ora := (30, lpO { kd := 5, I := spR v [UInt8.ofNat (wU v).toNat, UInt8.ofNat (wW v).toNat], ex := .normal, E := spJ v [UInt8.ofNat (wU v).toNat, UInt8.ofNat (wW v).toNat], fr := 37 })
abbrev Lu (v : VT) := spJ v [UInt8.ofNat (wU v).toNat, UInt8.ofNat (wW v).toNat]
abbrev TQ (v : VT) := YI v v.pts v.pc_flat [UInt8.ofNat (wU v).toNat, UInt8.ofNat (wW v).toNat]
theorem Vq (v : VT) (n0 : ¬ v.l < 0) (n1 : ¬ v.l > 255) (n2 : ¬ v.p < 0) (n3 : ¬ v.p > 255) (hs : v.sm) (j : Nat) (x : A1) (h1 : v.pts[j]? = some x) (h2 : p1E x ≠ 0) (h3 : ∀ (i : Nat) (y : A1), i < j -> v.pts[i]? = some y -> p1E y = 0) : Gives prog 44 [.t (.ag v.ch)] (.tp [.v (.string (ofL [])), vi0 (p1E x)]) :=
 ze [(5, wF), (9, wF), (14, wF), (19, wF), (Pl v), (37, lpO { I := spJ v [UInt8.ofNat (wU v).toNat, UInt8.ofNat (wW v).toNat], ex := .ret, E := spF (p1E x), fr := 38 })] (ai (show some (Lu v) = some (Lu v) from rfl) (ai ((acY v v.pts rfl hs.1 j x h1 h2 h3 [UInt8.ofNat (wU v).toNat, UInt8.ofNat (wW v).toNat] (by simp)).pre [] (by kernel_rfl) (TQ v))
   (W3 n0 n1 n2 n3).down))
def Xd {v : VT} (n0 : ¬ v.l < 0) (n1 : ¬ v.l > 255) (n2 : ¬ v.p < 0) (n3 : ¬ v.p > 255) (hs : v.sm) (hc : ∀ a, a ∈ v.pts -> p1E a = 0) := PLift.up (ai (show sml2 v.b from hs.2) (ai (show some (Lu v) = some (Lu v) from rfl) (ai ((Yk v v.pts rfl hs.1 hc [UInt8.ofNat (wU v).toNat, UInt8.ofNat (wW v).toNat] (by simp)).pre [] (by kernel_rfl) (TQ v))
   (W3 n0 n1 n2 n3).down)))
def Xy (v : VT) : Nat × Ora := (37, lpO { I := spJ v [UInt8.ofNat (wU v).toNat, UInt8.ofNat (wW v).toNat], ex := .exit 0, E := spE v ([UInt8.ofNat (wU v).toNat, UInt8.ofNat (wW v).toNat] ++ rU v.pts), fr := 38 })
theorem WF (v : VT) (n0 : ¬ v.l < 0) (n1 : ¬ v.l > 255) (n2 : ¬ v.p < 0) (n3 : ¬ v.p > 255) (hs : v.sm) (hc : ∀ a, a ∈ v.pts -> p1E a = 0) (h : p2E v.b ≠ 0) : Gives prog 44 [.t (.ag v.ch)] (.tp [.v (.string (ofL [])), vi0 (p2E v.b)]) :=
 ze [(5, wF), (9, wF), (14, wF), (19, wF), (Pl v), (Xy v), (40, wO 0), (47, wT)] (ai (show (p2E v.b != 0) = true from by simpa using h)
   (Xd n0 n1 n2 n3 hs hc).down)
theorem U9 (v : VT) (n0 : ¬ v.l < 0) (n1 : ¬ v.l > 255) (n2 : ¬ v.p < 0) (n3 : ¬ v.p > 255) (hs : v.sm) (hc : ∀ a, a ∈ v.pts -> p1E a = 0) (h : p2E v.b = 0) : Gives prog 44 [.t (.ag v.ch)] (.tp [.v (.string (ofL (([UInt8.ofNat (IntKind.u8.wrap v.l).toNat, UInt8.ofNat (IntKind.u8.wrap v.p).toNat] ++ rU v.pts) ++ p2S v.b))), vi0 0]) :=
 ze [(5, wF), (9, wF), (14, wF), (19, wF), (Pl v), (Xy v), (40, wO 0), (47, wF), (50, rO 6 0)] (ai (show (ofL ([UInt8.ofNat (IntKind.u8.wrap v.l).toNat, UInt8.ofNat (IntKind.u8.wrap v.p).toNat] ++ rU v.pts)).size + (ofL (p2S v.b)).size <= 9223372036854775807 from by
   have h1 := FJ v.b
   have h2 := ta v.pts
   have h4 : v.pts.length = 8 := rfl
   show (([UInt8.ofNat (IntKind.u8.wrap v.l).toNat, UInt8.ofNat (IntKind.u8.wrap v.p).toNat] ++ rU v.pts)).length + (p2S v.b).length <= _
   rw [List.length_append]
   simp only [List.length_cons, List.length_nil]
   omega) (ai (show (p2E v.b != 0) = false from by rw [h]; rfl)
   (Xd n0 n1 n2 n3 hs hc).down))
theorem Sm (v : VT) (hs : v.sm) : Gives prog 44 [.t (.ag v.ch)] (.tp [.v (.string (ofL (spS v))), vi0 (tN v)]) := by
 by_cases n0 : v.l < 0
 ·rw [show tN v = 1 from if_neg (fun h => absurd h.1 (by omega)), show spS v = [] from if_neg (by rw [show tN v = 1 from if_neg (fun h => absurd h.1 (by omega))]; decide)]
  exact VI v n0
 by_cases n1 : v.l > 255
 ·rw [show tN v = 1 from if_neg (fun h => absurd h.2.1 (by omega)), show spS v = [] from if_neg (by rw [show tN v = 1 from if_neg (fun h => absurd h.2.1 (by omega))]; decide)]
  exact VG v n0 n1
 by_cases n2 : v.p < 0
 ·rw [show tN v = 1 from if_neg (fun h => absurd h.2.2.1 (by omega)), show spS v = [] from if_neg (by rw [show tN v = 1 from if_neg (fun h => absurd h.2.2.1 (by omega))]; decide)]
  exact UM v n0 n1 n2
 by_cases n3 : v.p > 255
 ·rw [show tN v = 1 from if_neg (fun h => absurd h.2.2.2 (by omega)), show spS v = [] from if_neg (by rw [show tN v = 1 from if_neg (fun h => absurd h.2.2.2 (by omega))]; decide)]
  exact Wa v n0 n1 n2 n3
 have hk : Oo v := ⟨by omega, by omega, by omega, by omega⟩
 rcases El v.pts with ⟨h0, hc⟩ | ⟨j, x, h1, h2, h4, h3⟩
 ·have he : tN v = p2E v.b := by unfold tN; rw [if_pos hk, if_pos h0]
  by_cases h : p2E v.b = 0
  ·rw [show spS v = spO v ++ rU v.pts ++ p2S v.b from if_pos (by rw [he, h]), he, h]
   exact U9 v n0 n1 n2 n3 hs hc h
  ·rw [show spS v = [] from if_neg (by rw [he]; exact h), he]
   exact WF v n0 n1 n2 n3 hs hc h
 ·have he : tN v = p1E x := by unfold tN; rw [if_pos hk, if_neg (by rw [h4]; exact h2), h4]
  rw [show spS v = [] from if_neg (by rw [he]; exact h2), he]
  exact Vq v n0 n1 n2 n3 hs j x h1 h2 h3
end Go.Proofs.YtokjhbmmdmeafaaGreat
set_option linter.unusedSimpArgs false
set_option linter.unusedVariables false
namespace Go.Proofs.YtokjhbmmdmeafaaGreat
open Go.Ev Go.RowKit
open Tryz
def mgV : LU0 := [67, 72, 86, 49]
def mgP : LU0 := [67, 72, 80, 49]
theorem RV (v : VT) : (spS v).length <= 500 := by
 unfold spS
 split
 ·have h1 := ta v.pts
  have h2 := FJ v.b
  have h3 : v.pts.length = 8 := rfl
  have h4 : (spO v).length = 2 := rfl
  simp only [List.length_append]
  omega
 ·exact Nat.zero_le _
def ckS (v : VT) : LU0 := if tN v = 0 then mgV ++ spS v else []
def W8 (v : VT) (hs : v.sm) := PLift.up (ai (show rP prog 44 [.t (.ag v.ch)] (.tp [.v (.string (ofL (spS v))), vi0 (tN v)]) from ⟨fun vs w => Go.Proofs.enters_of (P := prog) func44 (by kernel_rfl) rfl vs w, Sm v hs⟩) (ai (show flat [.y mgV] = (ofL mgV).data.toList.map qK from rp mgV) tt0))
def PJ (v : VT) : Nat × Ora := (13, { ch := 0, hi := fun _ => 0, ex := 7, av := fun _ => .tp [.v (.string (ofL (spS v))), vi0 (tN v)] })
def RP : Nat × Ora := (6, { ch := 0, hi := fun _ => 0, ex := 2, cs := fun _ => [.y mgV] })
theorem ZG (v : VT) (hs : v.sm) (h : tN v ≠ 0) : Gives prog 15 [.t (.ag v.ch)] (.tp [.v (.string (ofL [])), vi0 (tN v)]) :=
 pL (P := prog) (X := pN _) (env := []) trivial func15 1 (oL [RP, (PJ v), (33, yS), (45, wT)]) (by kernel_rfl) ⟨_, rfl⟩ (ai (show (tN v != 0) = true from by simpa using h) (ai (show qd [.y mgV] = (4) * 1 /\ 4 + (ofL (spS v)).size <= 9223372036854775807 /\ (4 + (ofL (spS v)).size) * 1 <= 140737488355328 /\ True from by
    have h1 : mgV.length = 4 := rfl
    have h2 : (ofL (spS v)).size <= 500 := RV v
    refine ⟨?_, ?_, ?_, tt0⟩ <;> (try simp only [qd, Ch.size]) <;> omega)
   (W8 v hs).down))
theorem UG (v : VT) (hs : v.sm) (h : tN v = 0) : Gives prog 15 [.t (.ag v.ch)] (.tp [.v (.string (ofL (mgV ++ spS v))), vi0 0]) :=
 pL (P := prog) (X := pN _) (env := []) trivial func15 1 (oL [RP, (PJ v), (33, yS), (45, wF), (50, { ch := 0, hi := fun _ => 0, ru := 10, av := fun _ => .v (.string (ofL (mgV ++ spS v))) })]) (by kernel_rfl) ⟨_, rfl⟩ (ai (show (flat [.y mgV, .y (spS v)]).take (4 + (ofL (spS v)).size) = (ofL (mgV ++ spS v)).data.toList.map qK /\ 4 + (ofL (spS v)).size = (ofL (mgV ++ spS v)).size from Qv mgV (spS v)) (ai (show (tN v != 0) = false from by rw [h]; rfl) (ai (show qd [.y mgV] = (4) * 1 /\ 4 + (ofL (spS v)).size <= 9223372036854775807 /\ (4 + (ofL (spS v)).size) * 1 <= 140737488355328 /\ True from by
    have h1 : mgV.length = 4 := rfl
    have h2 : (ofL (spS v)).size <= 500 := RV v
    refine ⟨?_, ?_, ?_, tt0⟩ <;> (try simp only [qd, Ch.size]) <;> omega)
   (W8 v hs).down)))
theorem Tg (v : VT) (hs : v.sm) : Gives prog 15 [.t (.ag v.ch)] (.tp [.v (.string (ofL (ckS v))), vi0 (tN v)]) := by
 unfold ckS
 by_cases h : tN v = 0
 ·rw [if_pos h, h]; exact UG v hs h
 ·rw [if_neg h]; exact ZG v hs h
structure PF where
 a0 : A1
 a1 : A1
 a2 : A1
 a3 : A1
 a4 : A1
 a5 : A1
 a6 : A1
 a7 : A1
 a8 : A1
 f0 : Nat
 f1 : Nat
 f2 : Nat
 f3 : Nat
 f4 : Nat
 f5 : Nat
def PF.pts (p : PF) : List A1 := [p.a0, p.a1, p.a2, p.a3, p.a4, p.a5, p.a6, p.a7, p.a8]
def PF.nums (p : PF) : List Nat := [p.f0, p.f1, p.f2, p.f3, p.f4, p.f5]
def PF.pc (p : PF) : List Ch := [.n 6 p.a0.1, .n 6 p.a0.2.1, .c (.bool p.a0.2.2), .n 6 p.a1.1, .n 6 p.a1.2.1, .c (.bool p.a1.2.2), .n 6 p.a2.1, .n 6 p.a2.2.1, .c (.bool p.a2.2.2), .n 6 p.a3.1, .n 6 p.a3.2.1, .c (.bool p.a3.2.2), .n 6 p.a4.1, .n 6 p.a4.2.1, .c (.bool p.a4.2.2), .n 6 p.a5.1, .n 6 p.a5.2.1, .c (.bool p.a5.2.2), .n 6 p.a6.1, .n 6 p.a6.2.1, .c (.bool p.a6.2.2), .n 6 p.a7.1, .n 6 p.a7.2.1, .c (.bool p.a7.2.2), .n 6 p.a8.1, .n 6 p.a8.2.1, .c (.bool p.a8.2.2)]
def PF.nc (p : PF) : List Ch := [.n 4 p.f0, .n 4 p.f1, .n 4 p.f2, .n 4 p.f3, .n 4 p.f4, .n 4 p.f5]
def PF.ch (p : PF) : List Ch := [.n 6 p.a0.1, .n 6 p.a0.2.1, .c (.bool p.a0.2.2), .n 6 p.a1.1, .n 6 p.a1.2.1, .c (.bool p.a1.2.2), .n 6 p.a2.1, .n 6 p.a2.2.1, .c (.bool p.a2.2.2), .n 6 p.a3.1, .n 6 p.a3.2.1, .c (.bool p.a3.2.2), .n 6 p.a4.1, .n 6 p.a4.2.1, .c (.bool p.a4.2.2), .n 6 p.a5.1, .n 6 p.a5.2.1, .c (.bool p.a5.2.2), .n 6 p.a6.1, .n 6 p.a6.2.1, .c (.bool p.a6.2.2), .n 6 p.a7.1, .n 6 p.a7.2.1, .c (.bool p.a7.2.2), .n 6 p.a8.1, .n 6 p.a8.2.1, .c (.bool p.a8.2.2), .n 4 p.f0, .n 4 p.f1, .n 4 p.f2, .n 4 p.f3, .n 4 p.f4, .n 4 p.f5]
def PF.sm (p : PF) : Prop := Ap p.pts /\ sm4 p.nums
theorem PF.pc_flat (p : PF) : flat p.pc = flat [.l (qO p.pts)] := by
 simp [PF.pc, PF.pts, qO, ptC, ptP, flat, Ch.cells]
theorem PF.nc_flat (p : PF) : flat p.nc = flat [.l (numC 4 p.nums)] := by
 simp [PF.nc, PF.nums, numC, flat, Ch.cells]
def q9 (ps : List A1) (i : Nat) : LU0 := mgP ++ rU (ps.take i)
def rI (a : LU0) (ns : List Nat) (i : Nat) : LU0 := a ++ yh (ns.take i)
theorem ve (ps : List A1) (i : Nat) : (q9 ps i).length <= 4 + 48 * ps.length := by
 unfold q9
 have h1 : mgP.length = 4 := rfl
 have h2 := ta (ps.take i)
 have h4 : (ps.take i).length <= ps.length := by rw [List.length_take]; omega
 simp only [List.length_append]
 omega
theorem Bx (a : LU0) (ns : List Nat) (i : Nat) : (rI a ns i).length <= a.length + 32 * ns.length := by
 unfold rI
 have h2 := Bq (ns.take i)
 have h4 : (ns.take i).length <= ns.length := by rw [List.length_take]; omega
 simp only [List.length_append]
 omega
theorem yk {ps : List A1} {i : Nat} {x : A1} (h : ps[i]? = some x) : q9 ps (i + 1) = q9 ps i ++ p1S x := by
 unfold q9; rw [yp h]; simp
theorem yv {a : LU0} {ns : List Nat} {i x : Nat} (h : ns[i]? = some x) : rI a ns (i + 1) = rI a ns i ++ qL x := by
 unfold rI; rw [EK h]; simp
def pfI (p : PF) (ps : List A1) (out : LU0) (bd z : Int) : LState := { n := 79, sl := [(1, .p 0 0), (4, .p 23 0), (43, .ag [.l (qO ps)]), (44, vi0 z)], hp := [(0, .own p.ch 30), (23, .own [.sx 21 out.length, ci0 bd] 159), (21, .gr [.y out] 5 1)] }
def pfJ (p : PF) : LState := { n := 79, sl := [(1, .p 0 0), (4, .p 23 0), (43, .ag p.pc), (44, vi0 0)], hp := [(0, .own p.ch 30), (23, .own [.sx 21 4, ci0 0] 159), (21, .gr [.y mgP] 5 1)] }
def pfE (p : PF) (out : LU0) (bd : Int) : LState := { n := 79, sl := [(1, .p 0 0), (4, .p 23 0)], hp := [(0, .own p.ch 30), (23, .own [.sx 21 out.length, ci0 bd] 159), (21, .gr [.y out] 5 1)] }
def pnI (ns : List Nat) (out : LU0) (bd z : Int) : LState := { n := 79, sl := [(4, .p 23 0), (66, .ag [.l (numC 4 ns)]), (67, vi0 z)], hp := [(23, .own [.sx 21 out.length, ci0 bd] 159), (21, .gr [.y out] 5 1)] }
def pnJ (p : PF) (out : LU0) (bd : Int) : LState := { n := 79, sl := [(4, .p 23 0), (66, .ag p.nc), (67, vi0 0)], hp := [(23, .own [.sx 21 out.length, ci0 bd] 159), (21, .gr [.y out] 5 1)] }
def pnE (out : LU0) (bd : Int) : LState := { n := 79, sl := [(4, .p 23 0)], hp := [(23, .own [.sx 21 out.length, ci0 bd] 159), (21, .gr [.y out] 5 1)] }
theorem Yj (p : PF) : qw (pfJ p).aa (pfI p p.pts (q9 p.pts 0) (ptE (p.pts.take 0)) ((0 : Nat) : Int)) [] := by
 have e : qw (pfJ p).aa (pfI p p.pts (q9 p.pts 0) (ptE (p.pts.take 0)) ((0 : Nat) : Int)) [] = (((tk 0) /\ (tk 0) /\ flat p.pc = flat [.l (qO p.pts)] /\ (Value.int .i64 0) = (Value.int .i64 ((0 : Nat) : Int)) /\ True) /\ ((30 = 30 /\ flat p.ch = flat p.ch) /\ (159 = 159 /\ (true = true /\ 4 = (q9 p.pts 0).length) /\ (true = true /\ true = true /\ [Value.int .i64 0] = [Value.int .i64 (ptE (p.pts.take 0))]) /\ True) /\ ((5 = 5 /\ 1 = 1) /\ flat [.y mgP] = flat [.y (q9 p.pts 0)]) /\ True)) := by kernel_rfl
 rw [e]
 exact ⟨⟨rr0, rr0, p.pc_flat, rfl, tt0⟩, ⟨rr0, ⟨rfl, ⟨rfl, by simp [q9, rU, mgP]⟩, ⟨rfl, rfl, by simp [ptE]⟩, tt0⟩, ⟨rr0, by simp [q9, rU]⟩, tt0⟩⟩
theorem Tw (p : PF) (a : LU0) (bd : Int) : qw (pnJ p a bd).aa (pnI p.nums (rI a p.nums 0) bd ((0 : Nat) : Int)) [] := by
 have e : qw (pnJ p a bd).aa (pnI p.nums (rI a p.nums 0) bd ((0 : Nat) : Int)) [] = (((tk 0) /\ flat p.nc = flat [.l (numC 4 p.nums)] /\ (Value.int .i64 0) = (Value.int .i64 ((0 : Nat) : Int)) /\ True) /\ ((159 = 159 /\ (true = true /\ a.length = (rI a p.nums 0).length) /\ (LM (.int .i64 bd)) /\ True) /\ ((5 = 5 /\ 1 = 1) /\ flat [.y a] = flat [.y (rI a p.nums 0)]) /\ True)) := by kernel_rfl
 rw [e]
 exact ⟨⟨rr0, p.nc_flat, rfl, tt0⟩, ⟨⟨rfl, ⟨rfl, by simp [rI, yh]⟩, r30, tt0⟩, ⟨rr0, by simp [rI, yh]⟩, tt0⟩⟩
theorem Fz {c : Code} {I J : LState} {ex : Ex} {b : Prop} (o : LO0) (k : Nat) (τ : List (Nat × Nat)) (hb : b) (h : vK prog (pN _) [vA, tK, uM] 1 (oL o) 0 false c k I J τ = some (ex, b) := by kernel_rfl) : Sound prog 0 false c I.aa ex J.aa := qT (P := prog) (X := pN _) (env := [vA, tK, uM]) ⟨u7, tg, te, tt0⟩ h hb
abbrev J1 (a : AA) (e : Ex) (b : AA) : Prop := Sound prog 0 false (pS f14 0) a e b
theorem ND (p : PF) (ps : List A1) (hm : ps.length = 9) (i : Nat) (a : A1) (ha : ps[i]? = some a) (hs : Ap ps) (h0 : ptE (ps.take i) = 0) : J1 (pfI p ps (q9 ps i) (ptE (ps.take i)) (i : Int)).aa .normal (pfI p ps (q9 ps (i + 1)) (ptE (ps.take (i + 1))) ((i + 1 : Nat) : Int)).aa := by
 have hi := plt ha
 rw [hm] at hi
 exact Fz [(46, wT), (47, { ch := 0, hi := fun _ => i, ru := 13, cs := fun _ => ptP a }), (52, wO 0), (60, wT), (72, yS)] 46 [(21, 72)] (ai (show ((tk 0) /\ (tk 0) /\ flat [.l (qO ps)] = flat [.l (qO ps)] /\ (Value.int .i64 (IntKind.i64.wrap ((i : Int) + 1))) = (Value.int .i64 ((i + 1 : Nat) : Int)) /\ True) /\ ((30 = 30 /\ flat p.ch = flat p.ch) /\ (159 = 159 /\ (true = true /\ (q9 ps i).length + (ofL (p1S a)).size = (q9 ps (i + 1)).length) /\ (true = true /\ true = true /\ [Value.int .i64 (p1E a)] = [Value.int .i64 (ptE (ps.take (i + 1)))]) /\ True) /\ ((5 = 5 /\ 1 = 1) /\ flat [.y (q9 ps i), .y (p1S a)] = flat [.y (q9 ps (i + 1))]) /\ True) from ⟨⟨rr0, rr0, rfl, by rw [show IntKind.i64.wrap ((i : Int) + 1) = ((i + 1 : Nat) : Int) by rw [p6]; omega], tt0⟩, ⟨rr0, ⟨rfl, ⟨rfl, by rw [yk ha, List.length_append]; rfl⟩, ⟨rfl, rfl, by rw [zH ha, if_pos h0]⟩, tt0⟩, ⟨rr0, by rw [yk ha, rp]; simp [flat, Ch.cells]⟩, tt0⟩⟩) (ai (show qd [.y (q9 ps i)] = ((q9 ps i).length) * 1 /\ (q9 ps i).length + (ofL (p1S a)).size <= 9223372036854775807 /\ ((q9 ps i).length + (ofL (p1S a)).size) * 1 <= 140737488355328 /\ True from by
    have h1 := ve ps i
    have h2 : (ofL (p1S a)).size <= 48 := Au a
    refine ⟨?_, ?_, ?_, tt0⟩ <;> (try simp only [qd, Ch.size]) <;> omega) (ai (show (ptE (ps.take i) == 0) = true from by simpa using h0) (ai (show sml1 a from hs a (K2 ha)) (ai (show (i : Int) = ((i : Nat) : Int) /\ i < 9 /\ qd (ptP a) = 13 /\ ((flat [.l (qO ps)]).drop (i * 13)).take 13 = flat (ptP a) from ⟨rfl, hi, EF ps i a ha⟩) (ai (show decide ((i : Int) < 9) = true from decide_eq_true (by omega)) tt0))))))
theorem NU (p : PF) (ps : List A1) (hm : ps.length = 9) (i : Nat) (a : A1) (ha : ps[i]? = some a) (hs : Ap ps) (h0 : ptE (ps.take i) ≠ 0) : J1 (pfI p ps (q9 ps i) (ptE (ps.take i)) (i : Int)).aa .normal (pfI p ps (q9 ps (i + 1)) (ptE (ps.take (i + 1))) ((i + 1 : Nat) : Int)).aa := by
 have hi := plt ha
 rw [hm] at hi
 exact Fz [(46, wT), (47, { ch := 0, hi := fun _ => i, ru := 13, cs := fun _ => ptP a }), (52, wO 0), (60, wF), (67, yS)] 46 [(21, 67)] (ai (show ((tk 0) /\ (tk 0) /\ flat [.l (qO ps)] = flat [.l (qO ps)] /\ (Value.int .i64 (IntKind.i64.wrap ((i : Int) + 1))) = (Value.int .i64 ((i + 1 : Nat) : Int)) /\ True) /\ ((30 = 30 /\ flat p.ch = flat p.ch) /\ (159 = 159 /\ (true = true /\ (q9 ps i).length + (ofL (p1S a)).size = (q9 ps (i + 1)).length) /\ (true = true /\ true = true /\ [Value.int .i64 (ptE (ps.take i))] = [Value.int .i64 (ptE (ps.take (i + 1)))]) /\ True) /\ ((5 = 5 /\ 1 = 1) /\ flat [.y (q9 ps i), .y (p1S a)] = flat [.y (q9 ps (i + 1))]) /\ True) from ⟨⟨rr0, rr0, rfl, by rw [show IntKind.i64.wrap ((i : Int) + 1) = ((i + 1 : Nat) : Int) by rw [p6]; omega], tt0⟩, ⟨rr0, ⟨rfl, ⟨rfl, by rw [yk ha, List.length_append]; rfl⟩, ⟨rfl, rfl, by rw [zH ha, if_neg h0]⟩, tt0⟩, ⟨rr0, by rw [yk ha, rp]; simp [flat, Ch.cells]⟩, tt0⟩⟩) (ai (show qd [.y (q9 ps i)] = ((q9 ps i).length) * 1 /\ (q9 ps i).length + (ofL (p1S a)).size <= 9223372036854775807 /\ ((q9 ps i).length + (ofL (p1S a)).size) * 1 <= 140737488355328 /\ True from by
    have h1 := ve ps i
    have h2 : (ofL (p1S a)).size <= 48 := Au a
    refine ⟨?_, ?_, ?_, tt0⟩ <;> (try simp only [qd, Ch.size]) <;> omega) (ai (show (ptE (ps.take i) == 0) = false from by simpa using h0) (ai (show sml1 a from hs a (K2 ha)) (ai (show (i : Int) = ((i : Nat) : Int) /\ i < 9 /\ qd (ptP a) = 13 /\ ((flat [.l (qO ps)]).drop (i * 13)).take 13 = flat (ptP a) from ⟨rfl, hi, EF ps i a ha⟩) (ai (show decide ((i : Int) < 9) = true from decide_eq_true (by omega)) tt0))))))
theorem ZN (p : PF) (ps : List A1) (out : LU0) (bd : Int) : J1 (pfI p ps out bd 9).aa (.exit 0) (pfE p out bd).aa :=
 Cp [] 46 [1, 4] [0, 23, 21] trivial
theorem XZ (p : PF) (ps : List A1) (hm : ps.length = 9) (hs : Ap ps) : Sound prog 0 false (.loop (pS f14 0)) (pfI p ps (q9 ps 0) (ptE (ps.take 0)) ((0 : Nat) : Int)).aa (.exit 0) (pfE p (q9 ps 9) (ptE ps)).aa := by
 refine qk (m := fun y : { i : Nat // i <= 9 } => 9 - y.val) (fun y => pfI p ps (q9 ps y.val) (ptE (ps.take y.val)) (y.val : Int)) (by simp) (fun y => ?_) ⟨0, by omega⟩
 obtain ⟨i, hi⟩ := y
 by_cases e : i < 9
 ·obtain ⟨x, hx⟩ := pof (show i < ps.length by omega)
  refine .inl ⟨⟨i + 1, e⟩, by show 9 - (i + 1) < 9 - i; omega, ?_⟩
  by_cases h0 : ptE (ps.take i) = 0
  ·exact ND p ps hm i x hx hs h0
  ·exact NU p ps hm i x hx hs h0
 ·have e : i = 9 := by omega
  subst e
  refine .inr ?_
  show Sound prog 0 false _ (pfI p ps (q9 ps 9) (ptE (ps.take 9)) _).aa _ _
  rw [show ps.take 9 = ps from List.take_of_length_le (by omega)]
  exact ZN p ps _ _
abbrev KZ (a : AA) (e : Ex) (b : AA) : Prop := Sound prog 0 false (pS f14 1) a e b
theorem OI (ns : List Nat) (hm : ns.length = 6) (a : LU0) (hl : a.length <= 1000) (bd : Int) (i x : Nat) (hx : ns[i]? = some x) (hb : sm4 ns) (h0 : bd = 0) : KZ (pnI ns (rI a ns i) bd (i : Int)).aa .normal (pnI ns (rI a ns (i + 1)) bd ((i + 1 : Nat) : Int)).aa := by
 have hi := Ao hx
 rw [hm] at hi
 exact Fz [(61, wT), (62, { ch := 0, hi := fun _ => i, ru := 13, cs := fun _ => [.n 4 x] }), (73, wT), (85, yS)] 61 [(21, 85)] (ai (show ((tk 0) /\ flat [.l (numC 4 ns)] = flat [.l (numC 4 ns)] /\ (Value.int .i64 (IntKind.i64.wrap ((i : Int) + 1))) = (Value.int .i64 ((i + 1 : Nat) : Int)) /\ True) /\ ((159 = 159 /\ (true = true /\ (rI a ns i).length + (ofL (qL x)).size = (rI a ns (i + 1)).length) /\ (true = true /\ true = true /\ [Value.int .i64 0] = [Value.int .i64 bd]) /\ True) /\ ((5 = 5 /\ 1 = 1) /\ flat [.y (rI a ns i), .y (qL x)] = flat [.y (rI a ns (i + 1))]) /\ True) from ⟨⟨rr0, rfl, by rw [show IntKind.i64.wrap ((i : Int) + 1) = ((i + 1 : Nat) : Int) by rw [p6]; omega], tt0⟩, ⟨⟨rfl, ⟨rfl, by rw [yv hx, List.length_append]; rfl⟩, ⟨rfl, rfl, by rw [h0]⟩, tt0⟩, ⟨rr0, by rw [yv hx, rp]; simp [flat, Ch.cells]⟩, tt0⟩⟩) (ai (show qd [.y (rI a ns i)] = ((rI a ns i).length) * 1 /\ (rI a ns i).length + (ofL (qL x)).size <= 9223372036854775807 /\ ((rI a ns i).length + (ofL (qL x)).size) * 1 <= 140737488355328 /\ True from by
    have h1 := Bx a ns i
    have h2 : (ofL (qL x)).size = 32 := rE x
    refine ⟨?_, ?_, ?_, tt0⟩ <;> (try simp only [qd, Ch.size]) <;> omega) (ai (show (bd == 0) = true from by simpa using h0) (ai (show DG (.inr x) from hb x (yj hx)) (ai (show (i : Int) = ((i : Nat) : Int) /\ i < 6 /\ qd [.n 4 x] = 4 /\ ((flat [.l (numC 4 ns)]).drop (i * 4)).take 4 = flat [.n 4 x] from ⟨rfl, hi, Cw ns i x hx⟩) (ai (show decide ((i : Int) < 6) = true from decide_eq_true (by omega)) tt0))))))
theorem MT (ns : List Nat) (hm : ns.length = 6) (a : LU0) (hl : a.length <= 1000) (bd : Int) (i x : Nat) (hx : ns[i]? = some x) (hb : sm4 ns) (h0 : bd ≠ 0) : KZ (pnI ns (rI a ns i) bd (i : Int)).aa .normal (pnI ns (rI a ns (i + 1)) bd ((i + 1 : Nat) : Int)).aa := by
 have hi := Ao hx
 rw [hm] at hi
 exact Fz [(61, wT), (62, { ch := 0, hi := fun _ => i, ru := 13, cs := fun _ => [.n 4 x] }), (73, wF), (80, yS)] 61 [(21, 80)] (ai (show ((tk 0) /\ flat [.l (numC 4 ns)] = flat [.l (numC 4 ns)] /\ (Value.int .i64 (IntKind.i64.wrap ((i : Int) + 1))) = (Value.int .i64 ((i + 1 : Nat) : Int)) /\ True) /\ ((159 = 159 /\ (true = true /\ (rI a ns i).length + (ofL (qL x)).size = (rI a ns (i + 1)).length) /\ (LM (.int .i64 bd)) /\ True) /\ ((5 = 5 /\ 1 = 1) /\ flat [.y (rI a ns i), .y (qL x)] = flat [.y (rI a ns (i + 1))]) /\ True) from ⟨⟨rr0, rfl, by rw [show IntKind.i64.wrap ((i : Int) + 1) = ((i + 1 : Nat) : Int) by rw [p6]; omega], tt0⟩, ⟨⟨rfl, ⟨rfl, by rw [yv hx, List.length_append]; rfl⟩, r30, tt0⟩, ⟨rr0, by rw [yv hx, rp]; simp [flat, Ch.cells]⟩, tt0⟩⟩) (ai (show qd [.y (rI a ns i)] = ((rI a ns i).length) * 1 /\ (rI a ns i).length + (ofL (qL x)).size <= 9223372036854775807 /\ ((rI a ns i).length + (ofL (qL x)).size) * 1 <= 140737488355328 /\ True from by
    have h1 := Bx a ns i
    have h2 : (ofL (qL x)).size = 32 := rE x
    refine ⟨?_, ?_, ?_, tt0⟩ <;> (try simp only [qd, Ch.size]) <;> omega) (ai (show (bd == 0) = false from by simpa using h0) (ai (show DG (.inr x) from hb x (yj hx)) (ai (show (i : Int) = ((i : Nat) : Int) /\ i < 6 /\ qd [.n 4 x] = 4 /\ ((flat [.l (numC 4 ns)]).drop (i * 4)).take 4 = flat [.n 4 x] from ⟨rfl, hi, Cw ns i x hx⟩) (ai (show decide ((i : Int) < 6) = true from decide_eq_true (by omega)) tt0))))))
theorem YA (ns : List Nat) (out : LU0) (bd : Int) : KZ (pnI ns out bd 6).aa (.exit 2) (pnE out bd).aa :=
 Cp [] 61 [4] [23, 21] trivial
theorem Qy (ns : List Nat) (hm : ns.length = 6) (a : LU0) (hl : a.length <= 1000) (bd : Int) (hb : sm4 ns) : Sound prog 0 false (.loop (pS f14 1)) (pnI ns (rI a ns 0) bd ((0 : Nat) : Int)).aa (.exit 2) (pnE (rI a ns 6) bd).aa := by
 refine qk (m := fun y : { i : Nat // i <= 6 } => 6 - y.val) (fun y => pnI ns (rI a ns y.val) bd (y.val : Int)) (by simp) (fun y => ?_) ⟨0, by omega⟩
 obtain ⟨i, hi⟩ := y
 by_cases e : i < 6
 ·obtain ⟨x, hx⟩ := GM (show i < ns.length by omega)
  refine .inl ⟨⟨i + 1, e⟩, by show 6 - (i + 1) < 6 - i; omega, ?_⟩
  by_cases h0 : bd = 0
  ·exact OI ns hm a hl bd i x hx hb h0
  ·exact MT ns hm a hl bd i x hx hb h0
 ·have e : i = 6 := by omega
  subst e
  exact .inr (YA ns _ _)
theorem JG {a : List XV} {r : AV} {b : Prop} (o : LO0) (hb : b) (h : fnA prog (pN _) [vA, tK, uM] 1 (oL o) f14 a = some (r, b) := by kernel_rfl) (hv : ∃ v, r.val? = some v := by exact ⟨_, rfl⟩) : Gives prog 14 a r := pL (P := prog) (X := pN _) (env := [vA, tK, uM]) ⟨u7, tg, te, tt0⟩ func14 1 (oL o) h hv hb
theorem acT (p : PF) (hs : p.sm) (hc : ¬ rB p.nums) : Gives prog 14 [.t (.ag p.ch)] Cz :=
 JG [(16, wO 1)] (ai (show p.nums.length <= 1000000 /\ sm4 p.nums /\ ¬ rB p.nums from ⟨by show 6 <= 1000000; decide, hs.2, hc⟩) tt0)
def Xf (p : PF) (hs : p.sm) (hc : rB p.nums) := PLift.up (ai (show some (pfJ p) = some (pfJ p) from rfl) (ai ((XZ p p.pts rfl hs.1).pre [] (by kernel_rfl) (Yj p)) (ai (show flat [.y mgP] = (ofL mgP).data.toList.map qK from rp mgP) (ai (show p.nums.length <= 1000000 /\ sm4 p.nums /\ rB p.nums from ⟨by show 6 <= 1000000; decide, hs.2, hc⟩) tt0))))
def SR (p : PF) : Nat × Ora := (61, lpO { I := pnJ p (q9 p.pts 9) (ptE p.pts), ex := .exit 2, E := pnE (rI (q9 p.pts 9) p.nums 6) (ptE p.pts), fr := 62 })
abbrev E8 (p : PF) := pnJ p (q9 p.pts 9) (ptE p.pts)
def To (p : PF) : Nat × Ora := (46, lpO { I := pfJ p, ex := .exit 0, E := pfE p (q9 p.pts 9) (ptE p.pts), fr := 47 })
def Ps : Nat × Ora := (21, { ch := 0, hi := fun _ => 0, ex := 2, cs := fun _ => [.y mgP] })
theorem ZC (p : PF) (hs : p.sm) (hc : rB p.nums) (h : ptE p.pts ≠ 0) : Gives prog 14 [.t (.ag p.ch)] (.tp [.v (.string (ofL [])), vi0 (ptE p.pts)]) :=
 JG [(16, wO 0), Ps, (To p), (SR p), (70, wT)] (ai (show (ptE p.pts != 0) = true from by simpa using h) (ai (show some (E8 p) = some (E8 p) from rfl) (ai ((Qy p.nums rfl (q9 p.pts 9) (by have h1 := ve p.pts 9; have h2 : p.pts.length = 9 := rfl; omega) (ptE p.pts) hs.2).pre [] (by kernel_rfl) (Tw p _ _))
   (Xf p hs hc).down)))
theorem VU (p : PF) (hs : p.sm) (hc : rB p.nums) (h : ptE p.pts = 0) : Gives prog 14 [.t (.ag p.ch)] (.tp [.v (.string (ofL (rI (q9 p.pts 9) p.nums 6))), vi0 0]) :=
 JG [(16, wO 0), Ps, (To p), (SR p), (70, wF), (75, { ch := 0, hi := fun _ => 0, ru := 10, av := fun _ => .v (.string (ofL (rI (q9 p.pts 9) p.nums 6))) })] (ai (show (flat [.y (rI (q9 p.pts 9) p.nums 6)]).take (rI (q9 p.pts 9) p.nums 6).length = (ofL (rI (q9 p.pts 9) p.nums 6)).data.toList.map qK /\ (rI (q9 p.pts 9) p.nums 6).length = (ofL (rI (q9 p.pts 9) p.nums 6)).size from ⟨by rw [rp, List.take_of_length_le (by simp)]; rfl, rfl⟩) (ai (show (ptE p.pts != 0) = false from by rw [h]; rfl) (ai (show some (E8 p) = some (E8 p) from rfl) (ai ((Qy p.nums rfl (q9 p.pts 9) (by have h1 := ve p.pts 9; have h2 : p.pts.length = 9 := rfl; omega) (ptE p.pts) hs.2).pre [] (by kernel_rfl) (Tw p _ _))
   (Xf p hs hc).down))))
instance (ns : List Nat) : Decidable (rB ns) := by unfold rB; infer_instance
def Ox (p : PF) : Int := if rB p.nums then ptE p.pts else 1
def pfS (p : PF) : LU0 := if Ox p = 0 then (mgP ++ rU p.pts) ++ yh p.nums else []
theorem Zn (p : PF) : (rI (q9 p.pts 9) p.nums 6) = (mgP ++ rU p.pts) ++ yh p.nums := rfl
theorem R6 (p : PF) (hs : p.sm) : Gives prog 14 [.t (.ag p.ch)] (.tp [.v (.string (ofL (pfS p))), vi0 (Ox p)]) := by
 by_cases hc : rB p.nums
 ·have e : Ox p = ptE p.pts := if_pos hc
  by_cases h : ptE p.pts = 0
  ·rw [show pfS p = (rI (q9 p.pts 9) p.nums 6) from (if_pos (by rw [e, h])).trans (Zn p).symm, e, h]
   exact VU p hs hc h
  ·rw [show pfS p = [] from if_neg (by rw [e]; exact h), e]
   exact ZC p hs hc h
 ·have e : Ox p = 1 := if_neg hc
  rw [show pfS p = [] from if_neg (by rw [e]; decide), e]
  exact acT p hs hc
end Go.Proofs.YtokjhbmmdmeafaaGreat
