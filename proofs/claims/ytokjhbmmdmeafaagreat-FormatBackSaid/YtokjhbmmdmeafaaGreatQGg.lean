/- Pruned: Gg. -/
import Derived.Test.YtokjhbmmdmeafaaGreatQGf
import Derived.Test.YtokjhbmmdmeafaaGreatQGc
import Derived.Test.YtokjhbmmdmeafaaGreatQGb
import Derived.Test.YtokjhbmmdmeafaaGreatQGa
set_option linter.unusedSimpArgs false
set_option linter.unusedVariables false
namespace Go.Proofs.YtokjhbmmdmeafaaGreat
open Go.Ev Go.RowKit
open Tryz
abbrev KH (v : Value) : Prop := true = true /\ true = true /\ [v] = [v]
abbrev tK (n : Nat) : Prop := true = true /\ n = n
abbrev VN (v : Value) : Prop := v = v
instance (a : A1) : Decidable (may1 a) := by unfold may1 is1; infer_instance
instance (a : A2) : Decidable (may2 a) := by unfold may2 is2; infer_instance
instance (a : A1) : Decidable (rp a) := by unfold rp; infer_instance
instance (a : A2) : Decidable (rm a) := by unfold rm; infer_instance
def p1E (a : A1) : Int := if may1 a then (if rp a then 0 else 31) else 30
def p1S (a : A1) : LU0 := if may1 a /\ rp a then putL1 (ofP a.1) (ofP a.2.1) a.2.2 true else []
def p2E (a : A2) : Int := if may2 a then (if rm a then 0 else 31) else 30
def p2S (a : A2) : LU0 := if may2 a /\ rm a then putL2 (of2 a.1) (of2 a.2.1) a.2.2 true else []
theorem Af (a : A1) : (p1S a).length <= 48 := by
 unfold p1S
 split
 ·rw [vw]; exact Nat.le_refl _
 ·exact Nat.zero_le _
theorem Cj (a : A2) : (p2S a).length <= 96 := by
 unfold p2S
 split
 ·rw [vP]; exact Nat.le_refl _
 ·exact Nat.zero_le _
def uf : Entry := ql 41 IA.x (fun a => [(some (sml1 a), .tp [.v (.string (ofL (p1S a))), vi0 (p1E a)])])
theorem uh : uf.OK prog := qb (fun args w => Go.Proofs.enters_of (P := prog) func41 (by kernel_rfl) rfl args w) (fun a => sd (fun h => by
 unfold p1S p1E
 by_cases h1 : may1 a
 ·by_cases h2 : rp a
  ·rw [if_pos ⟨h1, h2⟩, if_pos h1, if_pos h2]; exact U5 a h h1 h2
  ·rw [if_neg (fun e => h2 e.2), if_pos h1, if_neg h2]; exact N9 a h h1 h2
 ·rw [if_neg (fun e => h1 e.1), if_neg h1]; exact Ra a h h1))
def za : Entry := ql 46 GL.x (fun a => [(some (sml2 a), .tp [.v (.string (ofL (p2S a))), vi0 (p2E a)])])
theorem A3 : za.OK prog := qb (fun args w => Go.Proofs.enters_of (P := prog) func46 (by kernel_rfl) rfl args w) (fun a => sd (fun h => by
 unfold p2S p2E
 by_cases h1 : may2 a
 ·by_cases h2 : rm a
  ·rw [if_pos ⟨h1, h2⟩, if_pos h1, if_pos h2]; exact Va a h h1 h2
  ·rw [if_neg (fun e => h2 e.2), if_pos h1, if_neg h2]; exact QZ a h h1 h2
 ·rw [if_neg (fun e => h1 e.1), if_neg h1]; exact QU a h h1))
def mgW : LU0 := [67, 72, 87, 49]
def sH (ns : List Nat) (i : Nat) : LU0 := (mgW ++ b4 .i64 (ns.length : Nat)) ++ numB (ns.take i)
theorem Ic (ns : List Nat) (i : Nat) : (sH ns i).length <= 8 + 32 * ns.length := by
 unfold sH
 have h1 : mgW.length = 4 := rfl
 simp only [List.length_append, A6, vO, List.length_take]
 omega
theorem EN {ns : List Nat} {i x : Nat} (h : ns[i]? = some x) : sH ns (i + 1) = sH ns i ++ qL x := by
 unfold sH; rw [Ep h]; simp
theorem EE (ns : List Nat) : sH ns 0 = mgW ++ b4 .u32 (IntKind.u32.wrap (ns.length : Nat)) := by
 unfold sH; rw [xI]; simp [numB]
def ppI (ns : List Nat) (out : LU0) (z : Int) : LState := { n := 37, sl := [(4, .p 16 0), (22, .sz 0 ns.length), (23, vi0 ((ns.length : Nat) : Int)), (24, vi0 z)], hp := [(0, .rz [.l (numC 4 ns)]), (16, .own [.sx 41 out.length, ci0 0] 159), (41, .gr [.y out] 5 1)] }
def ppJ (ns : List Nat) : LState := { n := 37, sl := [(4, .p 16 0), (22, .sz 0 ns.length), (23, vi0 ((ns.length : Nat) : Int)), (24, vi0 0)], hp := [(0, .rz [.l (numC 4 ns)]), (16, .own [.sx 41 (4 + (ofL (b4 .u32 (IntKind.u32.wrap (ns.length : Nat)))).size), ci0 0] 159), (41, .gr [.y mgW, .y (b4 .u32 (IntKind.u32.wrap (ns.length : Nat)))] 5 1)] }
def ppE (out : LU0) : LState := { n := 37, sl := [(4, .p 16 0)], hp := [(16, .own [.sx 41 out.length, ci0 0] 159), (41, .gr [.y out] 5 1)] }
theorem WT (ns : List Nat) : so (ppJ ns).aa (ppI ns (sH ns 0) ((0 : Nat) : Int)) [] := by
 have e : so (ppJ ns).aa (ppI ns (sH ns 0) ((0 : Nat) : Int)) [] = (((tK 0) /\ (true = true /\ ns.length = ns.length) /\ (Value.int .i64 ((ns.length : Nat) : Int)) = (Value.int .i64 ((ns.length : Nat) : Int)) /\ (Value.int .i64 0) = (Value.int .i64 ((0 : Nat) : Int)) /\ True) /\ (flat [.l (numC 4 ns)] = flat [.l (numC 4 ns)] /\ (159 = 159 /\ (true = true /\ 4 + (ofL (b4 .u32 (IntKind.u32.wrap (ns.length : Nat)))).size = (sH ns 0).length) /\ (KH (.int .i64 0)) /\ True) /\ ((5 = 5 /\ 1 = 1) /\ flat [.y mgW, .y (b4 .u32 (IntKind.u32.wrap (ns.length : Nat)))] = flat [.y (sH ns 0)]) /\ True)) := by kernel_rfl
 rw [e]
 exact ⟨⟨rr0, rr0, rfl, rfl, tt0⟩, ⟨rfl, ⟨rfl, ⟨rfl, by rw [EE]; rfl⟩, r30, tt0⟩, ⟨rr0, by rw [EE, si]; simp [flat, Ch.cells]⟩, tt0⟩⟩
def xf : Ora := { ch := 0, hi := fun _ => 0, ex := 1 }
theorem Rl (ns : List Nat) (hm : ns.length <= 1000000) (i x : Nat) (hx : ns[i]? = some x) (hb : sm4 ns) : Sound prog 0 false (qc f16 0) (ppI ns (sH ns i) (i : Int)).aa .normal (ppI ns (sH ns (i + 1)) ((i + 1 : Nat) : Int)).aa := by
 have hi := zD hx
 exact rh (P := prog) (X := qa _) (env := [uE, wo]) ⟨ue, uv, tt0⟩ (n := 1) (os := oL [(48, wT), (49, rO 14 i), (50, { ch := 0, hi := fun _ => 0, ru := 8, cs := fun _ => [.n 4 x] }), (73, xf)]) (fb := 0) (rd := false) (c := (qc f16 0)) (k := 48) (I := ppI ns (sH ns i) (i : Int)) (J := ppI ns (sH ns (i + 1)) ((i + 1 : Nat) : Int)) (τ := [(41, 73)]) (ex := .normal) (by kernel_rfl) (ai (show ((tK 0) /\ (true = true /\ ns.length = ns.length) /\ (Value.int .i64 ((ns.length : Nat) : Int)) = (Value.int .i64 ((ns.length : Nat) : Int)) /\ (Value.int .i64 (IntKind.i64.wrap ((i : Int) + 1))) = (Value.int .i64 ((i + 1 : Nat) : Int)) /\ True) /\ (flat [.l (numC 4 ns)] = flat [.l (numC 4 ns)] /\ (159 = 159 /\ (true = true /\ (sH ns i).length + (ofL (qL x)).size = (sH ns (i + 1)).length) /\ (KH (.int .i64 0)) /\ True) /\ ((5 = 5 /\ 1 = 1) /\ flat [.y (sH ns i), .y (qL x)] = flat [.y (sH ns (i + 1))]) /\ True) from ⟨⟨rr0, rr0, rfl, by rw [show IntKind.i64.wrap ((i : Int) + 1) = ((i + 1 : Nat) : Int) by rw [qj]; omega], tt0⟩, ⟨rfl, ⟨rfl, ⟨rfl, by rw [EN hx, List.length_append]; rfl⟩, r30, tt0⟩, ⟨rr0, by rw [EN hx, si]; simp [flat, Ch.cells]⟩, tt0⟩⟩) (ai (show qq [.y (sH ns i)] = ((sH ns i).length) * 1 /\ (sH ns i).length + (ofL (qL x)).size <= 9223372036854775807 /\ ((sH ns i).length + (ofL (qL x)).size) * 1 <= 140737488355328 /\ True from by
    have h1 := Ic ns i
    have h2 : (ofL (qL x)).size = 32 := rB x
    refine ⟨?_, ?_, ?_, tt0⟩ <;> (try simp only [qq, Ch.size]) <;> omega) (ai (show DH (.inr x) from hb x (yp hx)) (ai (ze ns i x hx) (ai (show (i : Int) = ((i : Nat) : Int) /\ i < ns.length from ⟨rfl, hi⟩) (ai (show decide ((i : Int) < ((ns.length : Nat) : Int)) = true from decide_eq_true (by omega)) tt0))))))
theorem Cr {c : Code} {I L : LState} {ex : Ex} {b : Prop} (o : LO0) (k : Nat) (sk hk : List Nat) (hb : b) (h : uG prog (qa _) [] 0 (oL o) 0 false c k I sk hk [] = some (ex, L, b) := by kernel_rfl) : Sound prog 0 false c I.aa ex L.aa := p9 (P := prog) (X := qa _) (env := []) trivial h hb
theorem WP (ns : List Nat) (out : LU0) : Sound prog 0 false (qc f16 0) (ppI ns out ((ns.length : Nat) : Int)).aa (.exit 0) (ppE out).aa :=
 Cr [(48, wF)] 48 [4] [16, 41] (ai (show decide (((ns.length : Nat) : Int) < ((ns.length : Nat) : Int)) = false from decide_eq_false (by omega)) tt0)
theorem Xu (ns : List Nat) (hm : ns.length <= 1000000) (hb : sm4 ns) : Sound prog 0 false (.loop (qc f16 0)) (ppI ns (sH ns 0) ((0 : Nat) : Int)).aa (.exit 0) (ppE (sH ns ns.length)).aa := by
 refine qw (m := fun y : { i : Nat // i <= ns.length } => ns.length - y.val) (fun y => ppI ns (sH ns y.val) (y.val : Int)) (by simp) (fun y => ?_) ⟨0, by omega⟩
 obtain ⟨i, hi⟩ := y
 by_cases e : i < ns.length
 ·obtain ⟨x, hx⟩ := C3 e
  exact .inl ⟨⟨i + 1, e⟩, by show ns.length - (i + 1) < ns.length - i; omega, Rl ns hm i x hx hb⟩
 ·have e : i = ns.length := by omega
  subst e
  exact .inr (WP ns _)
abbrev Cu : AV := .tp [.v (.string (ofL [])), vi0 1]
theorem JZ {a : List XV} {r : AV} {b : Prop} (o : LO0) (hb : b) (h : fnA prog (qa _) [uE, wo] 1 (oL o) f16 a = some (r, b) := by kernel_rfl) (hv : ∃ v, r.val? = some v := by exact ⟨_, rfl⟩) : Gives prog 16 a r := p6 (P := prog) (X := qa _) (env := [uE, wo]) ⟨ue, uv, tt0⟩ func16 1 (oL o) h hv hb
theorem Q6 (ns : List Nat) (h : 64 < ns.length) : Gives prog 16 [.rz [.l (numC 4 ns)] ns.length] Cu :=
 JZ [(5, wT)] (ai (show decide (((ns.length : Nat) : Int) > 64) = true from decide_eq_true (by omega)) tt0)
theorem YO (ns : List Nat) (h : ns.length <= 64) (hb : sm4 ns) (hc : ¬ re ns) : Gives prog 16 [.rz [.l (numC 4 ns)] ns.length] Cu :=
 JZ [(5, wF), (8, { ch := 0, hi := fun _ => 0, ex := 7, av := fun _ => .v (.bool false) })] (ai (show qN prog 38 [.rz [.l (numC 4 ns)] ns.length] (.v (.bool false)) from ⟨fun vs w => Go.Proofs.enters_of (P := prog) func38 (by kernel_rfl) rfl vs w, Eg ns (by omega) hb hc⟩) (ai (show decide (((ns.length : Nat) : Int) > 64) = false from decide_eq_false (by omega)) tt0))
theorem Yn (ns : List Nat) (h : ns.length <= 64) (hb : sm4 ns) (hc : re ns) : Gives prog 16 [.rz [.l (numC 4 ns)] ns.length] (.tp [.v (.string (ofL (sH ns ns.length))), vi0 0]) :=
 JZ [(5, wF), (8, { ch := 0, hi := fun _ => 0, ex := 7, av := fun _ => .v (.bool true) }), (14, { ch := 0, hi := fun _ => 0, ex := 2, cs := fun _ => [.y mgW] }), (48, lpO { I := ppJ ns, ex := .exit 0, E := ppE (sH ns ns.length), fr := 49 }), (62, { ch := 0, hi := fun _ => 0, ru := 10, av := fun _ => .v (.string (ofL (sH ns ns.length))) })] (ai (show (flat [.y (sH ns ns.length)]).take (sH ns ns.length).length = (ofL (sH ns ns.length)).data.toList.map rf /\ (sH ns ns.length).length = (ofL (sH ns ns.length)).size from ⟨by rw [si, List.take_of_length_le (by simp)]; rfl, rfl⟩) (ai (show some (ppJ ns) = some (ppJ ns) from rfl) (ai ((Xu ns (by omega) hb).pre [] (by kernel_rfl) (WT ns)) (ai (show flat [.y mgW] = (ofL mgW).data.toList.map rf from si mgW) (ai (show qN prog 38 [.rz [.l (numC 4 ns)] ns.length] (.v (.bool true)) from ⟨fun vs w => Go.Proofs.enters_of (P := prog) func38 (by kernel_rfl) rfl vs w, DA ns (by omega) hb hc⟩) (ai (show decide (((ns.length : Nat) : Int) > 64) = false from decide_eq_false (by omega)) tt0))))))
def ptP (a : A1) : List Ch := [.n 6 a.1, .n 6 a.2.1, .c (.bool a.2.2)]
def ptC (a : A1) : List Value := flat (ptP a)
theorem zA (a : A1) : (ptC a).length = 13 := by unfold ptC ptP; simp [flat, Ch.cells, sC]
def qt (ps : List A1) : List Value := ps.flatMap ptC
theorem BI (ps : List A1) (i : Nat) (a : A1) (h : ps[i]? = some a) : qq (ptP a) = 13 /\ ((flat [.l (qt ps)]).drop (i * 13)).take 13 = flat (ptP a) := by
 refine ⟨rfl, ?_⟩
 rw [x7]
 exact BW ptC zA ps i a h
theorem plt {ps : List A1} {i : Nat} {x : A1} (h : ps[i]? = some x) : i < ps.length := (List.getElem?_eq_some_iff.1 h).1
theorem Ka {ps : List A1} {i : Nat} {x : A1} (h : ps[i]? = some x) : x ∈ ps := List.mem_of_getElem? h
theorem pof {ps : List A1} {i : Nat} (h : i < ps.length) : ∃ x, ps[i]? = some x := ⟨_, List.getElem?_eq_getElem h⟩
def qW (ps : List A1) : LU0 := ps.flatMap p1S
def wB (ps : List A1) : Prop := ∀ a, a ∈ ps -> sml1 a
theorem tE (ps : List A1) : (qW ps).length <= 48 * ps.length := by
 induction ps with
 | nil => exact Nat.le_refl _
 | cons a ps ih => have := Af a; simp only [qW, List.flatMap_cons, List.length_append, List.length_cons] at ih ⊢; omega
theorem yB {ps : List A1} {i : Nat} {a : A1} (h : ps[i]? = some a) : qW (ps.take (i + 1)) = qW (ps.take i) ++ p1S a := by
 rw [List.take_add_one, h]; simp [qW]
def ptE : List A1 -> Int
 | [] => 0
 | a :: l => if p1E a = 0 then ptE l else p1E a
theorem Dj : ∀ (l : List A1) (a : A1), ptE (l ++ [a]) = if ptE l = 0 then p1E a else ptE l
 | [], a => by simp only [List.nil_append, ptE]; by_cases h : p1E a = 0 <;> simp [h]
 | b :: l, a => by
  simp only [List.cons_append, ptE]
  by_cases h : p1E b = 0
  ·simp only [h, if_true]; exact Dj l a
  ·simp only [h, if_false]
theorem Aa {ps : List A1} {i : Nat} {a : A1} (h : ps[i]? = some a) : ptE (ps.take (i + 1)) = if ptE (ps.take i) = 0 then p1E a else ptE (ps.take i) := by
 rw [List.take_add_one, h]; exact Dj _ a
theorem AS : ∀ ps : List A1, (ptE ps = 0 /\ ∀ a, a ∈ ps -> p1E a = 0) ∨ ∃ (j : Nat) (a : A1), ps[j]? = some a /\ p1E a ≠ 0 /\ ptE ps = p1E a /\ ∀ (i : Nat) (y : A1), i < j -> ps[i]? = some y -> p1E y = 0
 | [] => .inl ⟨rfl, fun x hx => by cases hx⟩
 | n :: ns => by
  by_cases h : p1E n = 0
  ·rcases AS ns with ⟨h0, h1⟩ | ⟨j, x, h1, h2, h4, h3⟩
   ·exact .inl ⟨by simp only [ptE, h, if_true]; exact h0, fun x hx => by rcases List.mem_cons.1 hx with rfl | hx; exact h; exact h1 x hx⟩
   ·refine .inr ⟨j + 1, x, h1, h2, by simp only [ptE, h, if_true]; exact h4, fun i y hi hy => ?_⟩
    match i, hy with
    | 0, hy => simp only [List.getElem?_cons_zero, oi0] at hy; subst hy; exact h
    | i + 1, hy => exact h3 i y (by omega) (by simpa using hy)
  ·exact .inr ⟨0, n, rfl, h, by simp only [ptE, h, if_false], fun i y hi => by omega⟩
end Go.Proofs.YtokjhbmmdmeafaaGreat
set_option linter.unusedSimpArgs false
set_option linter.unusedVariables false
namespace Go.Proofs.YtokjhbmmdmeafaaGreat
open Go.Ev Go.RowKit
open Tryz
def mgK : LU0 := [67, 72, 75, 49]
def qV (ps : List A1) (i : Nat) : LU0 := (mgK ++ b4 .i64 (ps.length : Nat)) ++ qW (ps.take i)
theorem ur (ps : List A1) (i : Nat) : (qV ps i).length <= 8 + 48 * ps.length := by
 unfold qV
 have h1 : mgK.length = 4 := rfl
 have h2 := tE (ps.take i)
 have h3 := List.length_take_le i ps
 have h4 : (ps.take i).length <= ps.length := by rw [List.length_take]; omega
 simp only [List.length_append, A6]
 omega
theorem yn {ps : List A1} {i : Nat} {x : A1} (h : ps[i]? = some x) : qV ps (i + 1) = qV ps i ++ p1S x := by
 unfold qV; rw [yB h]; simp
theorem Et (ps : List A1) : qV ps 0 = mgK ++ b4 .u32 (IntKind.u32.wrap (ps.length : Nat)) := by
 unfold qV; rw [xI]; simp [qW]
def kyI (ps : List A1) (b : A2) (out : LU0) (bd z : Int) : LState := { n := 44, sl := [(1, .p 7 0), (4, .p 19 0), (20, .sz 0 ps.length), (21, vi0 ((ps.length : Nat) : Int)), (22, vi0 z)], hp := [(0, .rz [.l (qt ps)]), (7, .own [.sz 0 ps.length, .n 6 b.1.1, .n 6 b.1.2, .n 6 b.2.1.1, .n 6 b.2.1.2, .c (.bool b.2.2)] 54), (19, .own [.sx 45 out.length, ci0 bd] 159), (45, .gr [.y out] 5 1)] }
def kyJ (ps : List A1) (b : A2) : LState := { n := 44, sl := [(1, .p 7 0), (4, .p 19 0), (20, .sz 0 ps.length), (21, vi0 ((ps.length : Nat) : Int)), (22, vi0 0)], hp := [(0, .rz [.l (qt ps)]), (7, .own [.sz 0 ps.length, .n 6 b.1.1, .n 6 b.1.2, .n 6 b.2.1.1, .n 6 b.2.1.2, .c (.bool b.2.2)] 54), (19, .own [.sx 45 (4 + (ofL (b4 .u32 (IntKind.u32.wrap (ps.length : Nat)))).size), ci0 0] 159), (45, .gr [.y mgK, .y (b4 .u32 (IntKind.u32.wrap (ps.length : Nat)))] 5 1)] }
def kyE (ps : List A1) (b : A2) (out : LU0) (bd : Int) : LState := { n := 44, sl := [(1, .p 7 0), (4, .p 19 0)], hp := [(0, .rz [.l (qt ps)]), (7, .own [.sz 0 ps.length, .n 6 b.1.1, .n 6 b.1.2, .n 6 b.2.1.1, .n 6 b.2.1.2, .c (.bool b.2.2)] 54), (19, .own [.sx 45 out.length, ci0 bd] 159), (45, .gr [.y out] 5 1)] }
theorem Xm (ps : List A1) (b : A2) : so (kyJ ps b).aa (kyI ps b (qV ps 0) (ptE (ps.take 0)) ((0 : Nat) : Int)) [] := by
 have e : so (kyJ ps b).aa (kyI ps b (qV ps 0) (ptE (ps.take 0)) ((0 : Nat) : Int)) [] = (((tK 0) /\ (tK 0) /\ (true = true /\ ps.length = ps.length) /\ (Value.int .i64 ((ps.length : Nat) : Int)) = (Value.int .i64 ((ps.length : Nat) : Int)) /\ (Value.int .i64 0) = (Value.int .i64 ((0 : Nat) : Int)) /\ True) /\ (flat [.l (qt ps)] = flat [.l (qt ps)] /\ (54 = 54 /\ (true = true /\ ps.length = ps.length) /\ (true = true /\ true = true /\ limbs 6 b.1.1 = limbs 6 b.1.1) /\ (true = true /\ true = true /\ limbs 6 b.1.2 = limbs 6 b.1.2) /\ (true = true /\ true = true /\ limbs 6 b.2.1.1 = limbs 6 b.2.1.1) /\ (true = true /\ true = true /\ limbs 6 b.2.1.2 = limbs 6 b.2.1.2) /\ (true = true /\ true = true /\ [Value.bool b.2.2] = [Value.bool b.2.2]) /\ True) /\ (159 = 159 /\ (true = true /\ 4 + (ofL (b4 .u32 (IntKind.u32.wrap (ps.length : Nat)))).size = (qV ps 0).length) /\ (true = true /\ true = true /\ [Value.int .i64 0] = [Value.int .i64 (ptE (ps.take 0))]) /\ True) /\ ((5 = 5 /\ 1 = 1) /\ flat [.y mgK, .y (b4 .u32 (IntKind.u32.wrap (ps.length : Nat)))] = flat [.y (qV ps 0)]) /\ True)) := by kernel_rfl
 rw [e]
 exact ⟨⟨rr0, rr0, rr0, rfl, rfl, tt0⟩, ⟨rfl, ⟨rfl, rr0, r30, r30, r30, r30, r30, tt0⟩, ⟨rfl, ⟨rfl, by rw [Et]; rfl⟩, ⟨rfl, rfl, by simp [ptE]⟩, tt0⟩, ⟨rr0, by rw [Et, si]; simp [flat, Ch.cells]⟩, tt0⟩⟩
def IY (a : A1) : Ora := { ch := 0, hi := fun _ => 0, ru := 8, cs := fun _ => ptP a }
theorem So {c : Code} {I J : LState} {ex : Ex} {b : Prop} (o : LO0) (k : Nat) (τ : List (Nat × Nat)) (hb : b) (h : vZ prog (qa _) [uf, za, wo] 1 (oL o) 0 false c k I J τ = some (ex, b) := by kernel_rfl) : Sound prog 0 false c I.aa ex J.aa := rh (P := prog) (X := qa _) (env := [uf, za, wo]) ⟨uh, A3, uv, tt0⟩ h hb
abbrev Jf (a : AA) (e : Ex) (b : AA) : Prop := Sound prog 0 false (qc f20 0) a e b
theorem L4 (ps : List A1) (b : A2) (hm : ps.length <= 4096) (i : Nat) (a : A1) (ha : ps[i]? = some a) (hs : wB ps) (h0 : ptE (ps.take i) = 0) : Jf (kyI ps b (qV ps i) (ptE (ps.take i)) (i : Int)).aa .normal (kyI ps b (qV ps (i + 1)) (ptE (ps.take (i + 1))) ((i + 1 : Nat) : Int)).aa := by
 have hi := plt ha
 exact So [(53, wT), (54, rO 14 i), (55, (IY a)), (60, wO 0), (68, wT), (80, xf)] 53 [(45, 80)] (ai (show ((tK 0) /\ (tK 0) /\ (true = true /\ ps.length = ps.length) /\ (Value.int .i64 ((ps.length : Nat) : Int)) = (Value.int .i64 ((ps.length : Nat) : Int)) /\ (Value.int .i64 (IntKind.i64.wrap ((i : Int) + 1))) = (Value.int .i64 ((i + 1 : Nat) : Int)) /\ True) /\ (flat [.l (qt ps)] = flat [.l (qt ps)] /\ (54 = 54 /\ (true = true /\ ps.length = ps.length) /\ (true = true /\ true = true /\ limbs 6 b.1.1 = limbs 6 b.1.1) /\ (true = true /\ true = true /\ limbs 6 b.1.2 = limbs 6 b.1.2) /\ (true = true /\ true = true /\ limbs 6 b.2.1.1 = limbs 6 b.2.1.1) /\ (true = true /\ true = true /\ limbs 6 b.2.1.2 = limbs 6 b.2.1.2) /\ (true = true /\ true = true /\ [Value.bool b.2.2] = [Value.bool b.2.2]) /\ True) /\ (159 = 159 /\ (true = true /\ (qV ps i).length + (ofL (p1S a)).size = (qV ps (i + 1)).length) /\ (true = true /\ true = true /\ [Value.int .i64 (p1E a)] = [Value.int .i64 (ptE (ps.take (i + 1)))]) /\ True) /\ ((5 = 5 /\ 1 = 1) /\ flat [.y (qV ps i), .y (p1S a)] = flat [.y (qV ps (i + 1))]) /\ True) from ⟨⟨rr0, rr0, rr0, rfl, by rw [show IntKind.i64.wrap ((i : Int) + 1) = ((i + 1 : Nat) : Int) by rw [qj]; omega], tt0⟩, ⟨rfl, ⟨rfl, rr0, r30, r30, r30, r30, r30, tt0⟩, ⟨rfl, ⟨rfl, by rw [yn ha, List.length_append]; rfl⟩, ⟨rfl, rfl, by rw [Aa ha, if_pos h0]⟩, tt0⟩, ⟨rr0, by rw [yn ha, si]; simp [flat, Ch.cells]⟩, tt0⟩⟩) (ai (show qq [.y (qV ps i)] = ((qV ps i).length) * 1 /\ (qV ps i).length + (ofL (p1S a)).size <= 9223372036854775807 /\ ((qV ps i).length + (ofL (p1S a)).size) * 1 <= 140737488355328 /\ True from by
    have h1 := ur ps i
    have h2 : (ofL (p1S a)).size <= 48 := Af a
    refine ⟨?_, ?_, ?_, tt0⟩ <;> (try simp only [qq, Ch.size]) <;> omega) (ai (show (ptE (ps.take i) == 0) = true from by simpa using h0) (ai (show sml1 a from hs a (Ka ha)) (ai (BI ps i a ha) (ai (show (i : Int) = ((i : Nat) : Int) /\ i < ps.length from ⟨rfl, hi⟩) (ai (show decide ((i : Int) < ((ps.length : Nat) : Int)) = true from decide_eq_true (by omega)) tt0)))))))
theorem MQ (ps : List A1) (b : A2) (hm : ps.length <= 4096) (i : Nat) (a : A1) (ha : ps[i]? = some a) (hs : wB ps) (h0 : ptE (ps.take i) ≠ 0) : Jf (kyI ps b (qV ps i) (ptE (ps.take i)) (i : Int)).aa .normal (kyI ps b (qV ps (i + 1)) (ptE (ps.take (i + 1))) ((i + 1 : Nat) : Int)).aa := by
 have hi := plt ha
 exact So [(53, wT), (54, rO 14 i), (55, (IY a)), (60, wO 0), (68, wF), (75, xf)] 53 [(45, 75)] (ai (show ((tK 0) /\ (tK 0) /\ (true = true /\ ps.length = ps.length) /\ (Value.int .i64 ((ps.length : Nat) : Int)) = (Value.int .i64 ((ps.length : Nat) : Int)) /\ (Value.int .i64 (IntKind.i64.wrap ((i : Int) + 1))) = (Value.int .i64 ((i + 1 : Nat) : Int)) /\ True) /\ (flat [.l (qt ps)] = flat [.l (qt ps)] /\ (54 = 54 /\ (true = true /\ ps.length = ps.length) /\ (true = true /\ true = true /\ limbs 6 b.1.1 = limbs 6 b.1.1) /\ (true = true /\ true = true /\ limbs 6 b.1.2 = limbs 6 b.1.2) /\ (true = true /\ true = true /\ limbs 6 b.2.1.1 = limbs 6 b.2.1.1) /\ (true = true /\ true = true /\ limbs 6 b.2.1.2 = limbs 6 b.2.1.2) /\ (true = true /\ true = true /\ [Value.bool b.2.2] = [Value.bool b.2.2]) /\ True) /\ (159 = 159 /\ (true = true /\ (qV ps i).length + (ofL (p1S a)).size = (qV ps (i + 1)).length) /\ (true = true /\ true = true /\ [Value.int .i64 (ptE (ps.take i))] = [Value.int .i64 (ptE (ps.take (i + 1)))]) /\ True) /\ ((5 = 5 /\ 1 = 1) /\ flat [.y (qV ps i), .y (p1S a)] = flat [.y (qV ps (i + 1))]) /\ True) from ⟨⟨rr0, rr0, rr0, rfl, by rw [show IntKind.i64.wrap ((i : Int) + 1) = ((i + 1 : Nat) : Int) by rw [qj]; omega], tt0⟩, ⟨rfl, ⟨rfl, rr0, r30, r30, r30, r30, r30, tt0⟩, ⟨rfl, ⟨rfl, by rw [yn ha, List.length_append]; rfl⟩, ⟨rfl, rfl, by rw [Aa ha, if_neg h0]⟩, tt0⟩, ⟨rr0, by rw [yn ha, si]; simp [flat, Ch.cells]⟩, tt0⟩⟩) (ai (show qq [.y (qV ps i)] = ((qV ps i).length) * 1 /\ (qV ps i).length + (ofL (p1S a)).size <= 9223372036854775807 /\ ((qV ps i).length + (ofL (p1S a)).size) * 1 <= 140737488355328 /\ True from by
    have h1 := ur ps i
    have h2 : (ofL (p1S a)).size <= 48 := Af a
    refine ⟨?_, ?_, ?_, tt0⟩ <;> (try simp only [qq, Ch.size]) <;> omega) (ai (show (ptE (ps.take i) == 0) = false from by simpa using h0) (ai (show sml1 a from hs a (Ka ha)) (ai (BI ps i a ha) (ai (show (i : Int) = ((i : Nat) : Int) /\ i < ps.length from ⟨rfl, hi⟩) (ai (show decide ((i : Int) < ((ps.length : Nat) : Int)) = true from decide_eq_true (by omega)) tt0)))))))
theorem Wz (ps : List A1) (b : A2) (out : LU0) (bd : Int) : Jf (kyI ps b out bd ((ps.length : Nat) : Int)).aa (.exit 0) (kyE ps b out bd).aa :=
 Cr [(53, wF)] 53 [1, 4] [0, 7, 19, 45] (ai (show decide (((ps.length : Nat) : Int) < ((ps.length : Nat) : Int)) = false from decide_eq_false (by omega)) tt0)
theorem WD (ps : List A1) (b : A2) (hm : ps.length <= 4096) (hs : wB ps) : Sound prog 0 false (.loop (qc f20 0)) (kyI ps b (qV ps 0) (ptE (ps.take 0)) ((0 : Nat) : Int)).aa (.exit 0) (kyE ps b (qV ps ps.length) (ptE ps)).aa := by
 refine qw (m := fun y : { i : Nat // i <= ps.length } => ps.length - y.val) (fun y => kyI ps b (qV ps y.val) (ptE (ps.take y.val)) (y.val : Int)) (by simp) (fun y => ?_) ⟨0, by omega⟩
 obtain ⟨i, hi⟩ := y
 by_cases e : i < ps.length
 ·obtain ⟨x, hx⟩ := pof e
  refine .inl ⟨⟨i + 1, e⟩, by show ps.length - (i + 1) < ps.length - i; omega, ?_⟩
  by_cases h0 : ptE (ps.take i) = 0
  ·exact L4 ps b hm i x hx hs h0
  ·exact MQ ps b hm i x hx hs h0
 ·have e : i = ps.length := by omega
  subst e
  refine .inr ?_
  show Sound prog 0 false _ (kyI ps b (qV ps ps.length) (ptE (ps.take ps.length)) _).aa _ _
  rw [List.take_length]
  exact Wz ps b _ _
theorem Wf (a b : LU0) : (flat [.y a, .y b]).take (a.length + (ofL b).size) = (ofL (a ++ b)).data.toList.map rf /\ a.length + (ofL b).size = (ofL (a ++ b)).size := by
 have e : (ofL b).size = b.length := rfl
 have e2 : (ofL (a ++ b)).size = (a ++ b).length := rfl
 rw [e, e2, List.length_append]
 refine ⟨?_, rfl⟩
 have e3 : flat [.y a, .y b] = (a ++ b).map rf := by simp [flat, Ch.cells]
 rw [e3, List.take_of_length_le (by simp)]
 rfl
def N6 {ps : List A1} (b : A2) (hm : ps.length <= 4096) (hs : wB ps) (hb : sml2 b) := PLift.up (ai (show sml2 b from hb) (ai (show some (kyJ ps b) = some (kyJ ps b) from rfl) (ai ((WD ps b hm hs).pre [] (by kernel_rfl) (Xm ps b)) (ai (show flat [.y mgK] = (ofL mgK).data.toList.map rf from si mgK) (ai (show decide (((ps.length : Nat) : Int) > 4096) = false from decide_eq_false (by omega)) tt0)))))
def JJ (ps : List A1) (b : A2) : Nat × Ora := (53, lpO { I := kyJ ps b, ex := .exit 0, E := kyE ps b (qV ps ps.length) (ptE ps), fr := 54 })
def Kp : Nat × Ora := (17, { ch := 0, hi := fun _ => 0, ex := 2, cs := fun _ => [.y mgK] })
theorem Jd {a : List XV} {r : AV} {b : Prop} (o : LO0) (hb : b) (h : fnA prog (qa _) [uf, za, wo] 1 (oL o) f20 a = some (r, b) := by kernel_rfl) (hv : ∃ v, r.val? = some v := by exact ⟨_, rfl⟩) : Gives prog 20 a r := p6 (P := prog) (X := qa _) (env := [uf, za, wo]) ⟨uh, A3, uv, tt0⟩ func20 1 (oL o) h hv hb
theorem Sj (ps : List A1) (b : A2) (hm : ps.length <= 4096) (hs : wB ps) (hb : sml2 b) (h1 : ptE ps = 0) (h2 : p2E b = 0) : Gives prog 20 [.ags [.z [.l (qt ps)] ps.length, .c (.n 6 b.1.1), .c (.n 6 b.1.2), .c (.n 6 b.2.1.1), .c (.n 6 b.2.1.2), .c (.c (.bool b.2.2))]] (.tp [.v (.string (ofL ((qV ps ps.length) ++ p2S b))), vi0 0]) :=
 Jd [(13, wF), Kp, (JJ ps b), (57, wO 0), (65, wT), (77, xf), (89, wF), (94, { ch := 0, hi := fun _ => 0, ru := 10, av := fun _ => .v (.string (ofL ((qV ps ps.length) ++ p2S b))) })] (ai (show (flat [.y (qV ps ps.length), .y (p2S b)]).take ((qV ps ps.length).length + (ofL (p2S b)).size) = (ofL ((qV ps ps.length) ++ p2S b)).data.toList.map rf /\ (qV ps ps.length).length + (ofL (p2S b)).size = (ofL ((qV ps ps.length) ++ p2S b)).size from Wf _ _) (ai (show (p2E b != 0) = false from by rw [h2]; rfl) (ai (show qq [.y (qV ps ps.length)] = ((qV ps ps.length).length) * 1 /\ (qV ps ps.length).length + (ofL (p2S b)).size <= 9223372036854775807 /\ ((qV ps ps.length).length + (ofL (p2S b)).size) * 1 <= 140737488355328 /\ True from by
    have h1 := ur ps ps.length
    have h2 : (ofL (p2S b)).size <= 96 := Cj b
    refine ⟨?_, ?_, ?_, tt0⟩ <;> (try simp only [qq, Ch.size]) <;> omega) (ai (show (ptE ps == 0) = true from by simpa using h1)
   (N6 b hm hs hb).down))))
theorem XH (ps : List A1) (b : A2) (hm : ps.length <= 4096) (hs : wB ps) (hb : sml2 b) (h1 : ptE ps = 0) (h2 : p2E b ≠ 0) : Gives prog 20 [.ags [.z [.l (qt ps)] ps.length, .c (.n 6 b.1.1), .c (.n 6 b.1.2), .c (.n 6 b.2.1.1), .c (.n 6 b.2.1.2), .c (.c (.bool b.2.2))]] (.tp [.v (.string (ofL [])), vi0 (p2E b)]) :=
 Jd [(13, wF), Kp, (JJ ps b), (57, wO 0), (65, wT), (77, xf), (89, wT)] (ai (show (p2E b != 0) = true from by simpa using h2) (ai (show qq [.y (qV ps ps.length)] = ((qV ps ps.length).length) * 1 /\ (qV ps ps.length).length + (ofL (p2S b)).size <= 9223372036854775807 /\ ((qV ps ps.length).length + (ofL (p2S b)).size) * 1 <= 140737488355328 /\ True from by
    have h1 := ur ps ps.length
    have h2 : (ofL (p2S b)).size <= 96 := Cj b
    refine ⟨?_, ?_, ?_, tt0⟩ <;> (try simp only [qq, Ch.size]) <;> omega) (ai (show (ptE ps == 0) = true from by simpa using h1)
   (N6 b hm hs hb).down)))
theorem Yt (ps : List A1) (b : A2) (hm : ps.length <= 4096) (hs : wB ps) (hb : sml2 b) (h1 : ptE ps ≠ 0) : Gives prog 20 [.ags [.z [.l (qt ps)] ps.length, .c (.n 6 b.1.1), .c (.n 6 b.1.2), .c (.n 6 b.2.1.1), .c (.n 6 b.2.1.2), .c (.c (.bool b.2.2))]] (.tp [.v (.string (ofL [])), vi0 (ptE ps)]) :=
 Jd [(13, wF), Kp, (JJ ps b), (57, wO 0), (65, wF), (72, xf), (84, wT)] (ai (show (ptE ps != 0) = true from by simpa using h1) (ai (show qq [.y (qV ps ps.length)] = ((qV ps ps.length).length) * 1 /\ (qV ps ps.length).length + (ofL (p2S b)).size <= 9223372036854775807 /\ ((qV ps ps.length).length + (ofL (p2S b)).size) * 1 <= 140737488355328 /\ True from by
    have h1 := ur ps ps.length
    have h2 : (ofL (p2S b)).size <= 96 := Cj b
    refine ⟨?_, ?_, ?_, tt0⟩ <;> (try simp only [qq, Ch.size]) <;> omega) (ai (show (ptE ps == 0) = false from by simpa using h1)
   (N6 b hm hs hb).down)))
end Go.Proofs.YtokjhbmmdmeafaaGreat
set_option linter.unusedSimpArgs false
set_option linter.unusedVariables false
namespace Go.Proofs.YtokjhbmmdmeafaaGreat
open Go.Ev Go.RowKit
open Tryz
structure VT where
 l : Int
 p : Int
 q0 : A1
 q1 : A1
 q2 : A1
 q3 : A1
 q4 : A1
 s0 : A1
 s1 : A1
 s2 : A1
 b : A2
def VT.pts (v : VT) : List A1 := [v.q0, v.q1, v.q2, v.q3, v.q4, v.s0, v.s1, v.s2]
def VT.ch (v : VT) : List Ch := [ci0 v.l, ci0 v.p, .n 6 v.q0.1, .n 6 v.q0.2.1, .c (.bool v.q0.2.2), .n 6 v.q1.1, .n 6 v.q1.2.1, .c (.bool v.q1.2.2), .n 6 v.q2.1, .n 6 v.q2.2.1, .c (.bool v.q2.2.2), .n 6 v.q3.1, .n 6 v.q3.2.1, .c (.bool v.q3.2.2), .n 6 v.q4.1, .n 6 v.q4.2.1, .c (.bool v.q4.2.2), .n 6 v.s0.1, .n 6 v.s0.2.1, .c (.bool v.s0.2.2), .n 6 v.s1.1, .n 6 v.s1.2.1, .c (.bool v.s1.2.2), .n 6 v.s2.1, .n 6 v.s2.2.1, .c (.bool v.s2.2.2), .n 6 v.b.1.1, .n 6 v.b.1.2, .n 6 v.b.2.1.1, .n 6 v.b.2.1.2, .c (.bool v.b.2.2)]
def VT.pc (v : VT) : List Ch := [.n 6 v.q0.1, .n 6 v.q0.2.1, .c (.bool v.q0.2.2), .n 6 v.q1.1, .n 6 v.q1.2.1, .c (.bool v.q1.2.2), .n 6 v.q2.1, .n 6 v.q2.2.1, .c (.bool v.q2.2.2), .n 6 v.q3.1, .n 6 v.q3.2.1, .c (.bool v.q3.2.2), .n 6 v.q4.1, .n 6 v.q4.2.1, .c (.bool v.q4.2.2), .n 6 v.s0.1, .n 6 v.s0.2.1, .c (.bool v.s0.2.2), .n 6 v.s1.1, .n 6 v.s1.2.1, .c (.bool v.s1.2.2), .n 6 v.s2.1, .n 6 v.s2.2.1, .c (.bool v.s2.2.2)]
def VT.sm (v : VT) : Prop := wB v.pts /\ sml2 v.b
theorem VT.pc_flat (v : VT) : flat v.pc = flat [.l (qt v.pts)] := by
 simp [VT.pc, VT.pts, qt, ptC, ptP, flat, Ch.cells]
def spJ (v : VT) (out : LU0) : LState := { n := 71, sl := [(1, .p 0 0), (4, .v (.string (ofL out))), (41, .sx 30 8), (42, vi0 8), (43, vi0 0)], hp := [(0, .own v.ch 41), (30, .gr v.pc 26 13)] }
def spI (v : VT) (C : List Value) (out : LU0) (z : Int) : LState := { n := 71, sl := [(1, .p 0 0), (4, .v (.string (ofL out))), (41, .sx 30 8), (42, vi0 8), (43, vi0 z)], hp := [(0, .own v.ch 41), (30, .gr [.l C] 26 13)] }
def spE (v : VT) (out : LU0) : LState := { n := 71, sl := [(1, .p 0 0), (4, .v (.string (ofL out)))], hp := [(0, .own v.ch 41)] }
def spF (e : Int) : LState := { n := 71, sl := [(2, .v (.string (ofL []))), (3, vi0 e)], hp := [] }
abbrev Jx (a : AA) (e : Ex) (b : AA) : Prop := Sound prog 0 false (qc f44 0) a e b
theorem Hu (v : VT) (ps : List A1) (hn : ps.length = 8) (hs : wB ps) (i : Nat) (a : A1) (ha : ps[i]? = some a) (h0 : p1E a = 0) (out : LU0) (ho : out.length <= 1000000) : Jx (spI v (qt ps) out (i : Int)).aa .normal (spI v (qt ps) (out ++ p1S a) ((i + 1 : Nat) : Int)).aa := by
 have hi := plt ha
 rw [hn] at hi
 have hs := p9 (P := prog) (X := qa _) (env := [uf]) ⟨uh, tt0⟩ (n := 0) (os := oL [(37, wT), (38, rO 9 i), (39, { ch := 0, hi := fun _ => 0, ru := 8, cs := fun _ => ptP a }), (43, wO 0), (50, wF), (53, rO 6 0)]) (fb := 0) (rd := false) (c := (qc f44 0)) (k := 37) (I := spI v (qt ps) out (i : Int)) (sk := [1, 4, 41, 42, 43]) (hk := [0, 30]) (lk := []) (ex := .normal)
  (L := spI v (qt ps) (out ++ p1S a) (IntKind.i64.wrap ((i : Int) + 1))) (by kernel_rfl) (ai (show (ofL out).size + (ofL (p1S a)).size <= 9223372036854775807 from by
    have h1 := Af a
    show out.length + (p1S a).length <= _
    omega) (ai (show (p1E a != 0) = false from by rw [h0]; rfl) (ai (show sml1 a from hs a (Ka ha)) (ai (BI ps i a ha) (ai (show (i : Int) = ((i : Nat) : Int) /\ i < 8 from ⟨rfl, hi⟩) (ai (show decide ((i : Int) < 8) = true from decide_eq_true (by omega)) tt0))))))
 rw [show IntKind.i64.wrap ((i : Int) + 1) = ((i + 1 : Nat) : Int) by rw [qj]; omega] at hs
 exact hs
theorem Yw (v : VT) (ps : List A1) (hn : ps.length = 8) (hs : wB ps) (out : LU0) (i : Nat) (a : A1) (ha : ps[i]? = some a) (h0 : p1E a ≠ 0) : Jx (spI v (qt ps) out (i : Int)).aa .ret (spF (p1E a)).aa := by
 have hi := plt ha
 rw [hn] at hi
 exact p9 (P := prog) (X := qa _) (env := [uf]) ⟨uh, tt0⟩ (n := 0) (os := oL [(37, wT), (38, rO 9 i), (39, (IY a)), (43, wO 0), (50, wT)]) (fb := 0) (rd := false) (c := (qc f44 0)) (k := 37) (I := spI v (qt ps) out (i : Int)) (sk := [2, 3]) (hk := []) (lk := []) (ex := .ret)
  (L := spF (p1E a)) (by kernel_rfl) (ai (show (p1E a != 0) = true from by simpa using h0) (ai (show sml1 a from hs a (Ka ha)) (ai (BI ps i a ha) (ai (show (i : Int) = ((i : Nat) : Int) /\ i < 8 from ⟨rfl, hi⟩) (ai (show decide ((i : Int) < 8) = true from decide_eq_true (by omega)) tt0)))))
theorem WK (v : VT) (ps : List A1) (out : LU0) : Jx (spI v (qt ps) out 8).aa (.exit 0) (spE v out).aa :=
 Cr [] 37 [1, 4] [0] trivial
abbrev EX (a : AA) (e : Ex) (b : AA) : Prop := Sound prog 0 false (.loop (qc f44 0)) a e b
theorem WC (v : VT) (ps : List A1) (hn : ps.length = 8) (hs : wB ps) (hc : ∀ a, a ∈ ps -> p1E a = 0) (o0 : LU0) (h0 : o0.length <= 1000) : EX (spI v (qt ps) o0 0).aa (.exit 0) (spE v (o0 ++ qW ps)).aa := by
 have hh := qw (P := prog) (fb := 0) (rd := false) (body := (qc f44 0)) (ex := .exit 0) (E := spE v (o0 ++ qW (ps.take 8))) (m := fun y : { i : Nat // i <= 8 } => 8 - y.val) (fun y => spI v (qt ps) (o0 ++ qW (ps.take y.val)) (y.val : Int)) (by simp) (fun y => ?_) ⟨0, by omega⟩
 ·have e1 : ps.take 8 = ps := List.take_of_length_le (by omega)
  have e2 : o0 ++ qW (ps.take 0) = o0 := by simp [qW]
  have h2 : EX (spI v (qt ps) (o0 ++ qW (ps.take 0)) 0).aa (.exit 0) (spE v (o0 ++ qW (ps.take 8))).aa := hh
  rw [e1, e2] at h2
  exact h2
 obtain ⟨i, hi⟩ := y
 by_cases e : i < 8
 ·obtain ⟨x, hx⟩ := pof (show i < ps.length by omega)
  have h1 := Hu v ps hn hs i x hx (hc x (Ka hx)) (o0 ++ qW (ps.take i)) (by have := tE (ps.take i); have := List.length_take_le i ps; rw [List.length_append]; have : (ps.take i).length <= 8 := (by rw [List.length_take]; omega); omega)
  rw [List.append_assoc, ← yB hx] at h1
  exact .inl ⟨⟨i + 1, e⟩, by show 8 - (i + 1) < 8 - i; omega, h1⟩
 ·have e : i = 8 := by omega
  subst e
  exact .inr (WK v ps _)
theorem abZ (v : VT) (ps : List A1) (hn : ps.length = 8) (hs : wB ps) (j : Nat) (x : A1) (hj : ps[j]? = some x) (hx : p1E x ≠ 0) (hp : ∀ (i : Nat) (y : A1), i < j -> ps[i]? = some y -> p1E y = 0) (o0 : LU0) (h0 : o0.length <= 1000) : EX (spI v (qt ps) o0 0).aa .ret (spF (p1E x)).aa := by
 have hh := qw (P := prog) (fb := 0) (rd := false) (body := (qc f44 0)) (ex := .ret) (E := spF (p1E x)) (m := fun y : { i : Nat // i <= j } => j - y.val) (fun y => spI v (qt ps) (o0 ++ qW (ps.take y.val)) (y.val : Int)) (by simp) (fun y => ?_) ⟨0, by omega⟩
 ·have e2 : o0 ++ qW (ps.take 0) = o0 := by simp [qW]
  have h2 : EX (spI v (qt ps) (o0 ++ qW (ps.take 0)) 0).aa .ret (spF (p1E x)).aa := hh
  rw [e2] at h2
  exact h2
 obtain ⟨i, hi⟩ := y
 by_cases e : i < j
 ·obtain ⟨g, hg⟩ := pof (show i < ps.length by have := plt hj; omega)
  have h1 := Hu v ps hn hs i g hg (hp i g e hg) (o0 ++ qW (ps.take i)) (by have := tE (ps.take i); have := List.length_take_le i ps; rw [List.length_append]; have : (ps.take i).length <= 8 := (by rw [List.length_take]; omega); omega)
  rw [List.append_assoc, ← yB hg] at h1
  exact .inl ⟨⟨i + 1, by omega⟩, by show j - (i + 1) < j - i; omega, h1⟩
 ·have e : i = j := by omega
  subst e
  exact .inr (Yw v ps hn hs _ i x hj hx)
def spR (v : VT) (out : LU0) : LState := { n := 71, sl := [(1, .p 0 0), (4, .v (.string (ofL out)))], hp := [(0, .own v.ch 41)] }
theorem LR (v : VT) (out : LU0) : Sound prog 0 false (OG f44 0) (spR v out).aa .normal (spJ v out).aa := by
 have hL : True /\ (some (spJ v out) = some (spJ v out)) := ⟨tt0, rfl⟩
 exact rY (P := prog) (X := qa _) (env := []) trivial (tj (P := prog) (X := qa _) (env := []) (os := oL []) trivial 0) (os := oL []) (fb := 0) (k := 30) (I := spR v out) (E := spJ v out) (by kernel_rfl) (ai (ai (ai (ai (ai (ai (ai hL tt0) (ai (ai hL tt0) tt0)) (ai (ai (ai hL tt0) tt0) tt0)) (ai (ai (ai (ai hL tt0) tt0) tt0) tt0)) (ai (ai (ai (ai (ai hL tt0) tt0) tt0) tt0) tt0)) (ai (ai (ai (ai (ai (ai hL tt0) (ai (ai hL tt0) tt0)) (ai (ai (ai hL tt0) tt0) tt0)) (ai (ai (ai (ai hL tt0) tt0) tt0) tt0)) (ai (ai (ai (ai (ai hL tt0) (ai (ai hL tt0) tt0)) (ai (ai (ai hL tt0) tt0) tt0)) (ai (ai (ai (ai hL tt0) tt0) tt0) tt0)) (ai (ai (ai (ai (ai hL tt0) tt0) tt0) (ai (ai (ai (ai hL tt0) tt0) tt0) tt0)) tt0))) (ai (ai (ai (ai (ai (ai hL tt0) tt0) tt0) tt0) (ai (ai (ai (ai (ai hL tt0) tt0) tt0) (ai (ai (ai (ai hL tt0) tt0) tt0) tt0)) tt0)) tt0))) (ai (ai (ai (ai (ai (ai (ai hL tt0) (ai (ai hL tt0) tt0)) (ai (ai (ai hL tt0) tt0) tt0)) (ai (ai (ai (ai hL tt0) tt0) tt0) tt0)) (ai (ai (ai (ai (ai hL tt0) (ai (ai hL tt0) tt0)) (ai (ai (ai hL tt0) tt0) tt0)) (ai (ai (ai (ai hL tt0) tt0) tt0) tt0)) (ai (ai (ai (ai (ai hL tt0) tt0) tt0) (ai (ai (ai (ai hL tt0) tt0) tt0) tt0)) tt0))) (ai (ai (ai (ai (ai (ai hL tt0) (ai (ai hL tt0) tt0)) (ai (ai (ai hL tt0) tt0) tt0)) (ai (ai (ai (ai hL tt0) tt0) tt0) tt0)) (ai (ai (ai (ai (ai hL tt0) tt0) tt0) tt0) tt0)) (ai (ai (ai (ai (ai (ai hL tt0) tt0) tt0) (ai (ai (ai (ai hL tt0) tt0) tt0) tt0)) (ai (ai (ai (ai (ai hL tt0) tt0) tt0) tt0) tt0)) tt0))) (ai (ai (ai (ai (ai (ai (ai hL tt0) tt0) tt0) tt0) (ai (ai (ai (ai (ai hL tt0) tt0) tt0) (ai (ai (ai (ai hL tt0) tt0) tt0) tt0)) tt0)) (ai (ai (ai (ai (ai (ai hL tt0) tt0) tt0) (ai (ai (ai (ai hL tt0) tt0) tt0) tt0)) (ai (ai (ai (ai (ai hL tt0) tt0) tt0) tt0) tt0)) tt0)) tt0)))
theorem Xw (v : VT) (ps : List A1) (hp : flat v.pc = flat [.l (qt ps)]) (out : LU0) : so (spJ v out).aa (spI v (qt ps) out 0) [] := by
 have e : so (spJ v out).aa (spI v (qt ps) out 0) [] = (((tK 0) /\ (Value.string (ofL out)) = (Value.string (ofL out)) /\ (tK 8) /\ (VN (.int .i64 8)) /\ (VN (.int .i64 0)) /\ True) /\ ((41 = 41 /\ flat v.ch = flat v.ch) /\ ((26 = 26 /\ 13 = 13) /\ flat v.pc = flat [.l (qt ps)]) /\ True)) := by kernel_rfl
 rw [e]
 exact ⟨⟨rr0, rfl, rr0, rfl, rfl, tt0⟩, rr0, ⟨rr0, hp⟩, tt0⟩
def spO (v : VT) : LU0 := [UInt8.ofNat (IntKind.u8.wrap v.l).toNat, UInt8.ofNat (IntKind.u8.wrap v.p).toNat]
def Gh (v : VT) : Prop := 0 <= v.l /\ v.l <= 255 /\ 0 <= v.p /\ v.p <= 255
instance (v : VT) : Decidable (Gh v) := by unfold Gh; infer_instance
def rL (v : VT) : Int := if Gh v then (if ptE v.pts = 0 then p2E v.b else ptE v.pts) else 1
def spS (v : VT) : LU0 := if rL v = 0 then spO v ++ qW v.pts ++ p2S v.b else []
theorem zw {a : List XV} {r : AV} {b : Prop} (o : LO0) (hb : b) (h : fnA prog (qa _) [uf, za] 1 (oL o) f44 a = some (r, b) := by kernel_rfl) (hv : ∃ v, r.val? = some v := by exact ⟨_, rfl⟩) : Gives prog 44 a r := p6 (P := prog) (X := qa _) (env := [uf, za]) ⟨uh, A3, tt0⟩ func44 1 (oL o) h hv hb
theorem UK (v : VT)  (h : v.l < 0) : Gives prog 44 [.t (.ag v.ch)] Cu :=
 zw [(5, wT)] (ai (show decide (v.l < 0) = true from decide_eq_true h) tt0)
theorem Tx (v : VT) (h0 : ¬ v.l < 0) (h : v.l > 255) : Gives prog 44 [.t (.ag v.ch)] Cu :=
 zw [(5, wF), (9, wT)] (ai (show decide (v.l > 255) = true from decide_eq_true h) (ai (show decide (v.l < 0) = false from decide_eq_false h0) tt0))
def SC {v : VT} (h0 : ¬ v.l < 0) (h1 : ¬ v.l > 255) := PLift.up (ai (show decide (v.l > 255) = false from decide_eq_false h1) (ai (show decide (v.l < 0) = false from decide_eq_false h0) tt0))
theorem UL (v : VT) (h0 : ¬ v.l < 0) (h1 : ¬ v.l > 255) (h : v.p < 0) : Gives prog 44 [.t (.ag v.ch)] Cu :=
 zw [(5, wF), (9, wF), (14, wT)] (ai (show decide (v.p < 0) = true from decide_eq_true h)
   (SC h0 h1).down)
theorem SO (v : VT) (h0 : ¬ v.l < 0) (h1 : ¬ v.l > 255) (h2 : ¬ v.p < 0) (h : v.p > 255) : Gives prog 44 [.t (.ag v.ch)] Cu :=
 zw [(5, wF), (9, wF), (14, wF), (19, wT)] (ai (show decide (v.p > 255) = true from decide_eq_true h) (ai (show decide (v.p < 0) = false from decide_eq_false h2)
   (SC h0 h1).down))
abbrev xb (v : VT) := IntKind.u8.wrap v.p
abbrev xd (v : VT) := IntKind.u8.wrap v.l
def Wx {v : VT} (n0 : ¬ v.l < 0) (n1 : ¬ v.l > 255) (n2 : ¬ v.p < 0) (n3 : ¬ v.p > 255) := PLift.up (ai (show some (spR v [UInt8.ofNat (xd v).toNat, UInt8.ofNat (xb v).toNat]) = some (spR v [UInt8.ofNat (xd v).toNat, UInt8.ofNat (xb v).toNat]) from rfl) (ai (LR v [UInt8.ofNat (xd v).toNat, UInt8.ofNat (xb v).toNat]) (ai (show decide (v.p > 255) = false from decide_eq_false n3) (ai (show decide (v.p < 0) = false from decide_eq_false n2) (ai (show decide (v.l > 255) = false from decide_eq_false n1) (ai (show decide (v.l < 0) = false from decide_eq_false n0) tt0))))))
def Rp (v : VT) : Nat × Ora := (30, lpO { kd := 5, I := spR v [UInt8.ofNat (xd v).toNat, UInt8.ofNat (xb v).toNat], ex := .normal, E := spJ v [UInt8.ofNat (xd v).toNat, UInt8.ofNat (xb v).toNat], fr := 37 })
abbrev FF (v : VT) := spJ v [UInt8.ofNat (xd v).toNat, UInt8.ofNat (xb v).toNat]
abbrev OD (v : VT) := Xw v v.pts v.pc_flat [UInt8.ofNat (xd v).toNat, UInt8.ofNat (xb v).toNat]
theorem Uv (v : VT) (n0 : ¬ v.l < 0) (n1 : ¬ v.l > 255) (n2 : ¬ v.p < 0) (n3 : ¬ v.p > 255) (hs : v.sm) (j : Nat) (x : A1) (h1 : v.pts[j]? = some x) (h2 : p1E x ≠ 0) (h3 : ∀ (i : Nat) (y : A1), i < j -> v.pts[i]? = some y -> p1E y = 0) : Gives prog 44 [.t (.ag v.ch)] (.tp [.v (.string (ofL [])), vi0 (p1E x)]) :=
 zw [(5, wF), (9, wF), (14, wF), (19, wF), (Rp v), (37, lpO { I := spJ v [UInt8.ofNat (xd v).toNat, UInt8.ofNat (xb v).toNat], ex := .ret, E := spF (p1E x), fr := 38 })] (ai (show some (FF v) = some (FF v) from rfl) (ai ((abZ v v.pts rfl hs.1 j x h1 h2 h3 [UInt8.ofNat (xd v).toNat, UInt8.ofNat (xb v).toNat] (by simp)).pre [] (by kernel_rfl) (OD v))
   (Wx n0 n1 n2 n3).down))
def Vv {v : VT} (n0 : ¬ v.l < 0) (n1 : ¬ v.l > 255) (n2 : ¬ v.p < 0) (n3 : ¬ v.p > 255) (hs : v.sm) (hc : ∀ a, a ∈ v.pts -> p1E a = 0) := PLift.up (ai (show sml2 v.b from hs.2) (ai (show some (FF v) = some (FF v) from rfl) (ai ((WC v v.pts rfl hs.1 hc [UInt8.ofNat (xd v).toNat, UInt8.ofNat (xb v).toNat] (by simp)).pre [] (by kernel_rfl) (OD v))
   (Wx n0 n1 n2 n3).down)))
def Ok (v : VT) : Nat × Ora := (37, lpO { I := spJ v [UInt8.ofNat (xd v).toNat, UInt8.ofNat (xb v).toNat], ex := .exit 0, E := spE v ([UInt8.ofNat (xd v).toNat, UInt8.ofNat (xb v).toNat] ++ qW v.pts), fr := 38 })
theorem Tq (v : VT) (n0 : ¬ v.l < 0) (n1 : ¬ v.l > 255) (n2 : ¬ v.p < 0) (n3 : ¬ v.p > 255) (hs : v.sm) (hc : ∀ a, a ∈ v.pts -> p1E a = 0) (h : p2E v.b ≠ 0) : Gives prog 44 [.t (.ag v.ch)] (.tp [.v (.string (ofL [])), vi0 (p2E v.b)]) :=
 zw [(5, wF), (9, wF), (14, wF), (19, wF), (Rp v), (Ok v), (40, wO 0), (47, wT)] (ai (show (p2E v.b != 0) = true from by simpa using h)
   (Vv n0 n1 n2 n3 hs hc).down)
theorem TZ (v : VT) (n0 : ¬ v.l < 0) (n1 : ¬ v.l > 255) (n2 : ¬ v.p < 0) (n3 : ¬ v.p > 255) (hs : v.sm) (hc : ∀ a, a ∈ v.pts -> p1E a = 0) (h : p2E v.b = 0) : Gives prog 44 [.t (.ag v.ch)] (.tp [.v (.string (ofL (([UInt8.ofNat (IntKind.u8.wrap v.l).toNat, UInt8.ofNat (IntKind.u8.wrap v.p).toNat] ++ qW v.pts) ++ p2S v.b))), vi0 0]) :=
 zw [(5, wF), (9, wF), (14, wF), (19, wF), (Rp v), (Ok v), (40, wO 0), (47, wF), (50, rO 6 0)] (ai (show (ofL ([UInt8.ofNat (IntKind.u8.wrap v.l).toNat, UInt8.ofNat (IntKind.u8.wrap v.p).toNat] ++ qW v.pts)).size + (ofL (p2S v.b)).size <= 9223372036854775807 from by
   have h1 := Cj v.b
   have h2 := tE v.pts
   have h4 : v.pts.length = 8 := rfl
   show (([UInt8.ofNat (IntKind.u8.wrap v.l).toNat, UInt8.ofNat (IntKind.u8.wrap v.p).toNat] ++ qW v.pts)).length + (p2S v.b).length <= _
   rw [List.length_append]
   simp only [List.length_cons, List.length_nil]
   omega) (ai (show (p2E v.b != 0) = false from by rw [h]; rfl)
   (Vv n0 n1 n2 n3 hs hc).down))
theorem Sz (v : VT) (hs : v.sm) : Gives prog 44 [.t (.ag v.ch)] (.tp [.v (.string (ofL (spS v))), vi0 (rL v)]) := by
 by_cases n0 : v.l < 0
 ·rw [show rL v = 1 from if_neg (fun h => absurd h.1 (by omega)), show spS v = [] from if_neg (by rw [show rL v = 1 from if_neg (fun h => absurd h.1 (by omega))]; decide)]
  exact UK v n0
 by_cases n1 : v.l > 255
 ·rw [show rL v = 1 from if_neg (fun h => absurd h.2.1 (by omega)), show spS v = [] from if_neg (by rw [show rL v = 1 from if_neg (fun h => absurd h.2.1 (by omega))]; decide)]
  exact Tx v n0 n1
 by_cases n2 : v.p < 0
 ·rw [show rL v = 1 from if_neg (fun h => absurd h.2.2.1 (by omega)), show spS v = [] from if_neg (by rw [show rL v = 1 from if_neg (fun h => absurd h.2.2.1 (by omega))]; decide)]
  exact UL v n0 n1 n2
 by_cases n3 : v.p > 255
 ·rw [show rL v = 1 from if_neg (fun h => absurd h.2.2.2 (by omega)), show spS v = [] from if_neg (by rw [show rL v = 1 from if_neg (fun h => absurd h.2.2.2 (by omega))]; decide)]
  exact SO v n0 n1 n2 n3
 have hk : Gh v := ⟨by omega, by omega, by omega, by omega⟩
 rcases AS v.pts with ⟨h0, hc⟩ | ⟨j, x, h1, h2, h4, h3⟩
 ·have he : rL v = p2E v.b := by unfold rL; rw [if_pos hk, if_pos h0]
  by_cases h : p2E v.b = 0
  ·rw [show spS v = spO v ++ qW v.pts ++ p2S v.b from if_pos (by rw [he, h]), he, h]
   exact TZ v n0 n1 n2 n3 hs hc h
  ·rw [show spS v = [] from if_neg (by rw [he]; exact h), he]
   exact Tq v n0 n1 n2 n3 hs hc h
 ·have he : rL v = p1E x := by unfold rL; rw [if_pos hk, if_neg (by rw [h4]; exact h2), h4]
  rw [show spS v = [] from if_neg (by rw [he]; exact h2), he]
  exact Uv v n0 n1 n2 n3 hs j x h1 h2 h3
end Go.Proofs.YtokjhbmmdmeafaaGreat
set_option linter.unusedSimpArgs false
set_option linter.unusedVariables false
namespace Go.Proofs.YtokjhbmmdmeafaaGreat
open Go.Ev Go.RowKit
open Tryz
def mgV : LU0 := [67, 72, 86, 49]
def mgP : LU0 := [67, 72, 80, 49]
theorem Ob (v : VT) : (spS v).length <= 500 := by
 unfold spS
 split
 ·have h1 := tE v.pts
  have h2 := Cj v.b
  have h3 : v.pts.length = 8 := rfl
  have h4 : (spO v).length = 2 := rfl
  simp only [List.length_append]
  omega
 ·exact Nat.zero_le _
def ckS (v : VT) : LU0 := if rL v = 0 then mgV ++ spS v else []
def VF (v : VT) (hs : v.sm) := PLift.up (ai (show qN prog 44 [.t (.ag v.ch)] (.tp [.v (.string (ofL (spS v))), vi0 (rL v)]) from ⟨fun vs w => Go.Proofs.enters_of (P := prog) func44 (by kernel_rfl) rfl vs w, Sz v hs⟩) (ai (show flat [.y mgV] = (ofL mgV).data.toList.map rf from si mgV) tt0))
def RM (v : VT) : Nat × Ora := (13, { ch := 0, hi := fun _ => 0, ex := 7, av := fun _ => .tp [.v (.string (ofL (spS v))), vi0 (rL v)] })
def Pi : Nat × Ora := (6, { ch := 0, hi := fun _ => 0, ex := 2, cs := fun _ => [.y mgV] })
theorem YT (v : VT) (hs : v.sm) (h : rL v ≠ 0) : Gives prog 15 [.t (.ag v.ch)] (.tp [.v (.string (ofL [])), vi0 (rL v)]) :=
 p6 (P := prog) (X := qa _) (env := []) trivial func15 1 (oL [Pi, (RM v), (33, xf), (45, wT)]) (by kernel_rfl) ⟨_, rfl⟩ (ai (show (rL v != 0) = true from by simpa using h) (ai (show qq [.y mgV] = (4) * 1 /\ 4 + (ofL (spS v)).size <= 9223372036854775807 /\ (4 + (ofL (spS v)).size) * 1 <= 140737488355328 /\ True from by
    have h1 : mgV.length = 4 := rfl
    have h2 : (ofL (spS v)).size <= 500 := Ob v
    refine ⟨?_, ?_, ?_, tt0⟩ <;> (try simp only [qq, Ch.size]) <;> omega)
   (VF v hs).down))
theorem U7 (v : VT) (hs : v.sm) (h : rL v = 0) : Gives prog 15 [.t (.ag v.ch)] (.tp [.v (.string (ofL (mgV ++ spS v))), vi0 0]) :=
 p6 (P := prog) (X := qa _) (env := []) trivial func15 1 (oL [Pi, (RM v), (33, xf), (45, wF), (50, { ch := 0, hi := fun _ => 0, ru := 10, av := fun _ => .v (.string (ofL (mgV ++ spS v))) })]) (by kernel_rfl) ⟨_, rfl⟩ (ai (show (flat [.y mgV, .y (spS v)]).take (4 + (ofL (spS v)).size) = (ofL (mgV ++ spS v)).data.toList.map rf /\ 4 + (ofL (spS v)).size = (ofL (mgV ++ spS v)).size from Wf mgV (spS v)) (ai (show (rL v != 0) = false from by rw [h]; rfl) (ai (show qq [.y mgV] = (4) * 1 /\ 4 + (ofL (spS v)).size <= 9223372036854775807 /\ (4 + (ofL (spS v)).size) * 1 <= 140737488355328 /\ True from by
    have h1 : mgV.length = 4 := rfl
    have h2 : (ofL (spS v)).size <= 500 := Ob v
    refine ⟨?_, ?_, ?_, tt0⟩ <;> (try simp only [qq, Ch.size]) <;> omega)
   (VF v hs).down)))
theorem Du (v : VT) (hs : v.sm) : Gives prog 15 [.t (.ag v.ch)] (.tp [.v (.string (ofL (ckS v))), vi0 (rL v)]) := by
 unfold ckS
 by_cases h : rL v = 0
 ·rw [if_pos h, h]; exact U7 v hs h
 ·rw [if_neg h]; exact YT v hs h
structure PF where
 a0 : A1
 a1 : A1
 a2 : A1
 a3 : A1
 a4 : A1
 a5 : A1
 a6 : A1
 a7 : A1
 a8 : A1
 f0 : Nat
 f1 : Nat
 f2 : Nat
 f3 : Nat
 f4 : Nat
 f5 : Nat
def PF.pts (p : PF) : List A1 := [p.a0, p.a1, p.a2, p.a3, p.a4, p.a5, p.a6, p.a7, p.a8]
def PF.nums (p : PF) : List Nat := [p.f0, p.f1, p.f2, p.f3, p.f4, p.f5]
def PF.pc (p : PF) : List Ch := [.n 6 p.a0.1, .n 6 p.a0.2.1, .c (.bool p.a0.2.2), .n 6 p.a1.1, .n 6 p.a1.2.1, .c (.bool p.a1.2.2), .n 6 p.a2.1, .n 6 p.a2.2.1, .c (.bool p.a2.2.2), .n 6 p.a3.1, .n 6 p.a3.2.1, .c (.bool p.a3.2.2), .n 6 p.a4.1, .n 6 p.a4.2.1, .c (.bool p.a4.2.2), .n 6 p.a5.1, .n 6 p.a5.2.1, .c (.bool p.a5.2.2), .n 6 p.a6.1, .n 6 p.a6.2.1, .c (.bool p.a6.2.2), .n 6 p.a7.1, .n 6 p.a7.2.1, .c (.bool p.a7.2.2), .n 6 p.a8.1, .n 6 p.a8.2.1, .c (.bool p.a8.2.2)]
def PF.nc (p : PF) : List Ch := [.n 4 p.f0, .n 4 p.f1, .n 4 p.f2, .n 4 p.f3, .n 4 p.f4, .n 4 p.f5]
def PF.ch (p : PF) : List Ch := [.n 6 p.a0.1, .n 6 p.a0.2.1, .c (.bool p.a0.2.2), .n 6 p.a1.1, .n 6 p.a1.2.1, .c (.bool p.a1.2.2), .n 6 p.a2.1, .n 6 p.a2.2.1, .c (.bool p.a2.2.2), .n 6 p.a3.1, .n 6 p.a3.2.1, .c (.bool p.a3.2.2), .n 6 p.a4.1, .n 6 p.a4.2.1, .c (.bool p.a4.2.2), .n 6 p.a5.1, .n 6 p.a5.2.1, .c (.bool p.a5.2.2), .n 6 p.a6.1, .n 6 p.a6.2.1, .c (.bool p.a6.2.2), .n 6 p.a7.1, .n 6 p.a7.2.1, .c (.bool p.a7.2.2), .n 6 p.a8.1, .n 6 p.a8.2.1, .c (.bool p.a8.2.2), .n 4 p.f0, .n 4 p.f1, .n 4 p.f2, .n 4 p.f3, .n 4 p.f4, .n 4 p.f5]
def PF.sm (p : PF) : Prop := wB p.pts /\ sm4 p.nums
theorem PF.pc_flat (p : PF) : flat p.pc = flat [.l (qt p.pts)] := by
 simp [PF.pc, PF.pts, qt, ptC, ptP, flat, Ch.cells]
theorem PF.nc_flat (p : PF) : flat p.nc = flat [.l (numC 4 p.nums)] := by
 simp [PF.nc, PF.nums, numC, flat, Ch.cells]
def rt (ps : List A1) (i : Nat) : LU0 := mgP ++ qW (ps.take i)
def rU (a : LU0) (ns : List Nat) (i : Nat) : LU0 := a ++ numB (ns.take i)
theorem vC (ps : List A1) (i : Nat) : (rt ps i).length <= 4 + 48 * ps.length := by
 unfold rt
 have h1 : mgP.length = 4 := rfl
 have h2 := tE (ps.take i)
 have h4 : (ps.take i).length <= ps.length := by rw [List.length_take]; omega
 simp only [List.length_append]
 omega
theorem Bm (a : LU0) (ns : List Nat) (i : Nat) : (rU a ns i).length <= a.length + 32 * ns.length := by
 unfold rU
 have h2 := vO (ns.take i)
 have h4 : (ns.take i).length <= ns.length := by rw [List.length_take]; omega
 simp only [List.length_append]
 omega
theorem yC {ps : List A1} {i : Nat} {x : A1} (h : ps[i]? = some x) : rt ps (i + 1) = rt ps i ++ p1S x := by
 unfold rt; rw [yB h]; simp
theorem yL {a : LU0} {ns : List Nat} {i x : Nat} (h : ns[i]? = some x) : rU a ns (i + 1) = rU a ns i ++ qL x := by
 unfold rU; rw [Ep h]; simp
def pfI (p : PF) (ps : List A1) (out : LU0) (bd z : Int) : LState := { n := 79, sl := [(1, .p 0 0), (4, .p 23 0), (43, .ag [.l (qt ps)]), (44, vi0 z)], hp := [(0, .own p.ch 30), (23, .own [.sx 21 out.length, ci0 bd] 159), (21, .gr [.y out] 5 1)] }
def pfJ (p : PF) : LState := { n := 79, sl := [(1, .p 0 0), (4, .p 23 0), (43, .ag p.pc), (44, vi0 0)], hp := [(0, .own p.ch 30), (23, .own [.sx 21 4, ci0 0] 159), (21, .gr [.y mgP] 5 1)] }
def pfE (p : PF) (out : LU0) (bd : Int) : LState := { n := 79, sl := [(1, .p 0 0), (4, .p 23 0)], hp := [(0, .own p.ch 30), (23, .own [.sx 21 out.length, ci0 bd] 159), (21, .gr [.y out] 5 1)] }
def pnI (ns : List Nat) (out : LU0) (bd z : Int) : LState := { n := 79, sl := [(4, .p 23 0), (66, .ag [.l (numC 4 ns)]), (67, vi0 z)], hp := [(23, .own [.sx 21 out.length, ci0 bd] 159), (21, .gr [.y out] 5 1)] }
def pnJ (p : PF) (out : LU0) (bd : Int) : LState := { n := 79, sl := [(4, .p 23 0), (66, .ag p.nc), (67, vi0 0)], hp := [(23, .own [.sx 21 out.length, ci0 bd] 159), (21, .gr [.y out] 5 1)] }
def pnE (out : LU0) (bd : Int) : LState := { n := 79, sl := [(4, .p 23 0)], hp := [(23, .own [.sx 21 out.length, ci0 bd] 159), (21, .gr [.y out] 5 1)] }
theorem WU (p : PF) : so (pfJ p).aa (pfI p p.pts (rt p.pts 0) (ptE (p.pts.take 0)) ((0 : Nat) : Int)) [] := by
 have e : so (pfJ p).aa (pfI p p.pts (rt p.pts 0) (ptE (p.pts.take 0)) ((0 : Nat) : Int)) [] = (((tK 0) /\ (tK 0) /\ flat p.pc = flat [.l (qt p.pts)] /\ (Value.int .i64 0) = (Value.int .i64 ((0 : Nat) : Int)) /\ True) /\ ((30 = 30 /\ flat p.ch = flat p.ch) /\ (159 = 159 /\ (true = true /\ 4 = (rt p.pts 0).length) /\ (true = true /\ true = true /\ [Value.int .i64 0] = [Value.int .i64 (ptE (p.pts.take 0))]) /\ True) /\ ((5 = 5 /\ 1 = 1) /\ flat [.y mgP] = flat [.y (rt p.pts 0)]) /\ True)) := by kernel_rfl
 rw [e]
 exact ⟨⟨rr0, rr0, p.pc_flat, rfl, tt0⟩, ⟨rr0, ⟨rfl, ⟨rfl, by simp [rt, qW, mgP]⟩, ⟨rfl, rfl, by simp [ptE]⟩, tt0⟩, ⟨rr0, by simp [rt, qW]⟩, tt0⟩⟩
theorem Oa (p : PF) (a : LU0) (bd : Int) : so (pnJ p a bd).aa (pnI p.nums (rU a p.nums 0) bd ((0 : Nat) : Int)) [] := by
 have e : so (pnJ p a bd).aa (pnI p.nums (rU a p.nums 0) bd ((0 : Nat) : Int)) [] = (((tK 0) /\ flat p.nc = flat [.l (numC 4 p.nums)] /\ (Value.int .i64 0) = (Value.int .i64 ((0 : Nat) : Int)) /\ True) /\ ((159 = 159 /\ (true = true /\ a.length = (rU a p.nums 0).length) /\ (KH (.int .i64 bd)) /\ True) /\ ((5 = 5 /\ 1 = 1) /\ flat [.y a] = flat [.y (rU a p.nums 0)]) /\ True)) := by kernel_rfl
 rw [e]
 exact ⟨⟨rr0, p.nc_flat, rfl, tt0⟩, ⟨⟨rfl, ⟨rfl, by simp [rU, numB]⟩, r30, tt0⟩, ⟨rr0, by simp [rU, numB]⟩, tt0⟩⟩
theorem E8 {c : Code} {I J : LState} {ex : Ex} {b : Prop} (o : LO0) (k : Nat) (τ : List (Nat × Nat)) (hb : b) (h : vZ prog (qa _) [uQ, uf, uE] 1 (oL o) 0 false c k I J τ = some (ex, b) := by kernel_rfl) : Sound prog 0 false c I.aa ex J.aa := rh (P := prog) (X := qa _) (env := [uQ, uf, uE]) ⟨vi, uh, ue, tt0⟩ h hb
abbrev Jk (a : AA) (e : Ex) (b : AA) : Prop := Sound prog 0 false (qc f14 0) a e b
theorem Nj (p : PF) (ps : List A1) (hm : ps.length = 9) (i : Nat) (a : A1) (ha : ps[i]? = some a) (hs : wB ps) (h0 : ptE (ps.take i) = 0) : Jk (pfI p ps (rt ps i) (ptE (ps.take i)) (i : Int)).aa .normal (pfI p ps (rt ps (i + 1)) (ptE (ps.take (i + 1))) ((i + 1 : Nat) : Int)).aa := by
 have hi := plt ha
 rw [hm] at hi
 exact E8 [(46, wT), (47, { ch := 0, hi := fun _ => i, ru := 13, cs := fun _ => ptP a }), (52, wO 0), (60, wT), (72, xf)] 46 [(21, 72)] (ai (show ((tK 0) /\ (tK 0) /\ flat [.l (qt ps)] = flat [.l (qt ps)] /\ (Value.int .i64 (IntKind.i64.wrap ((i : Int) + 1))) = (Value.int .i64 ((i + 1 : Nat) : Int)) /\ True) /\ ((30 = 30 /\ flat p.ch = flat p.ch) /\ (159 = 159 /\ (true = true /\ (rt ps i).length + (ofL (p1S a)).size = (rt ps (i + 1)).length) /\ (true = true /\ true = true /\ [Value.int .i64 (p1E a)] = [Value.int .i64 (ptE (ps.take (i + 1)))]) /\ True) /\ ((5 = 5 /\ 1 = 1) /\ flat [.y (rt ps i), .y (p1S a)] = flat [.y (rt ps (i + 1))]) /\ True) from ⟨⟨rr0, rr0, rfl, by rw [show IntKind.i64.wrap ((i : Int) + 1) = ((i + 1 : Nat) : Int) by rw [qj]; omega], tt0⟩, ⟨rr0, ⟨rfl, ⟨rfl, by rw [yC ha, List.length_append]; rfl⟩, ⟨rfl, rfl, by rw [Aa ha, if_pos h0]⟩, tt0⟩, ⟨rr0, by rw [yC ha, si]; simp [flat, Ch.cells]⟩, tt0⟩⟩) (ai (show qq [.y (rt ps i)] = ((rt ps i).length) * 1 /\ (rt ps i).length + (ofL (p1S a)).size <= 9223372036854775807 /\ ((rt ps i).length + (ofL (p1S a)).size) * 1 <= 140737488355328 /\ True from by
    have h1 := vC ps i
    have h2 : (ofL (p1S a)).size <= 48 := Af a
    refine ⟨?_, ?_, ?_, tt0⟩ <;> (try simp only [qq, Ch.size]) <;> omega) (ai (show (ptE (ps.take i) == 0) = true from by simpa using h0) (ai (show sml1 a from hs a (Ka ha)) (ai (show (i : Int) = ((i : Nat) : Int) /\ i < 9 /\ qq (ptP a) = 13 /\ ((flat [.l (qt ps)]).drop (i * 13)).take 13 = flat (ptP a) from ⟨rfl, hi, BI ps i a ha⟩) (ai (show decide ((i : Int) < 9) = true from decide_eq_true (by omega)) tt0))))))
theorem Nf (p : PF) (ps : List A1) (hm : ps.length = 9) (i : Nat) (a : A1) (ha : ps[i]? = some a) (hs : wB ps) (h0 : ptE (ps.take i) ≠ 0) : Jk (pfI p ps (rt ps i) (ptE (ps.take i)) (i : Int)).aa .normal (pfI p ps (rt ps (i + 1)) (ptE (ps.take (i + 1))) ((i + 1 : Nat) : Int)).aa := by
 have hi := plt ha
 rw [hm] at hi
 exact E8 [(46, wT), (47, { ch := 0, hi := fun _ => i, ru := 13, cs := fun _ => ptP a }), (52, wO 0), (60, wF), (67, xf)] 46 [(21, 67)] (ai (show ((tK 0) /\ (tK 0) /\ flat [.l (qt ps)] = flat [.l (qt ps)] /\ (Value.int .i64 (IntKind.i64.wrap ((i : Int) + 1))) = (Value.int .i64 ((i + 1 : Nat) : Int)) /\ True) /\ ((30 = 30 /\ flat p.ch = flat p.ch) /\ (159 = 159 /\ (true = true /\ (rt ps i).length + (ofL (p1S a)).size = (rt ps (i + 1)).length) /\ (true = true /\ true = true /\ [Value.int .i64 (ptE (ps.take i))] = [Value.int .i64 (ptE (ps.take (i + 1)))]) /\ True) /\ ((5 = 5 /\ 1 = 1) /\ flat [.y (rt ps i), .y (p1S a)] = flat [.y (rt ps (i + 1))]) /\ True) from ⟨⟨rr0, rr0, rfl, by rw [show IntKind.i64.wrap ((i : Int) + 1) = ((i + 1 : Nat) : Int) by rw [qj]; omega], tt0⟩, ⟨rr0, ⟨rfl, ⟨rfl, by rw [yC ha, List.length_append]; rfl⟩, ⟨rfl, rfl, by rw [Aa ha, if_neg h0]⟩, tt0⟩, ⟨rr0, by rw [yC ha, si]; simp [flat, Ch.cells]⟩, tt0⟩⟩) (ai (show qq [.y (rt ps i)] = ((rt ps i).length) * 1 /\ (rt ps i).length + (ofL (p1S a)).size <= 9223372036854775807 /\ ((rt ps i).length + (ofL (p1S a)).size) * 1 <= 140737488355328 /\ True from by
    have h1 := vC ps i
    have h2 : (ofL (p1S a)).size <= 48 := Af a
    refine ⟨?_, ?_, ?_, tt0⟩ <;> (try simp only [qq, Ch.size]) <;> omega) (ai (show (ptE (ps.take i) == 0) = false from by simpa using h0) (ai (show sml1 a from hs a (Ka ha)) (ai (show (i : Int) = ((i : Nat) : Int) /\ i < 9 /\ qq (ptP a) = 13 /\ ((flat [.l (qt ps)]).drop (i * 13)).take 13 = flat (ptP a) from ⟨rfl, hi, BI ps i a ha⟩) (ai (show decide ((i : Int) < 9) = true from decide_eq_true (by omega)) tt0))))))
theorem XY (p : PF) (ps : List A1) (out : LU0) (bd : Int) : Jk (pfI p ps out bd 9).aa (.exit 0) (pfE p out bd).aa :=
 Cr [] 46 [1, 4] [0, 23, 21] trivial
theorem Xo (p : PF) (ps : List A1) (hm : ps.length = 9) (hs : wB ps) : Sound prog 0 false (.loop (qc f14 0)) (pfI p ps (rt ps 0) (ptE (ps.take 0)) ((0 : Nat) : Int)).aa (.exit 0) (pfE p (rt ps 9) (ptE ps)).aa := by
 refine qw (m := fun y : { i : Nat // i <= 9 } => 9 - y.val) (fun y => pfI p ps (rt ps y.val) (ptE (ps.take y.val)) (y.val : Int)) (by simp) (fun y => ?_) ⟨0, by omega⟩
 obtain ⟨i, hi⟩ := y
 by_cases e : i < 9
 ·obtain ⟨x, hx⟩ := pof (show i < ps.length by omega)
  refine .inl ⟨⟨i + 1, e⟩, by show 9 - (i + 1) < 9 - i; omega, ?_⟩
  by_cases h0 : ptE (ps.take i) = 0
  ·exact Nj p ps hm i x hx hs h0
  ·exact Nf p ps hm i x hx hs h0
 ·have e : i = 9 := by omega
  subst e
  refine .inr ?_
  show Sound prog 0 false _ (pfI p ps (rt ps 9) (ptE (ps.take 9)) _).aa _ _
  rw [show ps.take 9 = ps from List.take_of_length_le (by omega)]
  exact XY p ps _ _
abbrev I1 (a : AA) (e : Ex) (b : AA) : Prop := Sound prog 0 false (qc f14 1) a e b
theorem Mq (ns : List Nat) (hm : ns.length = 6) (a : LU0) (hl : a.length <= 1000) (bd : Int) (i x : Nat) (hx : ns[i]? = some x) (hb : sm4 ns) (h0 : bd = 0) : I1 (pnI ns (rU a ns i) bd (i : Int)).aa .normal (pnI ns (rU a ns (i + 1)) bd ((i + 1 : Nat) : Int)).aa := by
 have hi := zD hx
 rw [hm] at hi
 exact E8 [(61, wT), (62, { ch := 0, hi := fun _ => i, ru := 13, cs := fun _ => [.n 4 x] }), (73, wT), (85, xf)] 61 [(21, 85)] (ai (show ((tK 0) /\ flat [.l (numC 4 ns)] = flat [.l (numC 4 ns)] /\ (Value.int .i64 (IntKind.i64.wrap ((i : Int) + 1))) = (Value.int .i64 ((i + 1 : Nat) : Int)) /\ True) /\ ((159 = 159 /\ (true = true /\ (rU a ns i).length + (ofL (qL x)).size = (rU a ns (i + 1)).length) /\ (true = true /\ true = true /\ [Value.int .i64 0] = [Value.int .i64 bd]) /\ True) /\ ((5 = 5 /\ 1 = 1) /\ flat [.y (rU a ns i), .y (qL x)] = flat [.y (rU a ns (i + 1))]) /\ True) from ⟨⟨rr0, rfl, by rw [show IntKind.i64.wrap ((i : Int) + 1) = ((i + 1 : Nat) : Int) by rw [qj]; omega], tt0⟩, ⟨⟨rfl, ⟨rfl, by rw [yL hx, List.length_append]; rfl⟩, ⟨rfl, rfl, by rw [h0]⟩, tt0⟩, ⟨rr0, by rw [yL hx, si]; simp [flat, Ch.cells]⟩, tt0⟩⟩) (ai (show qq [.y (rU a ns i)] = ((rU a ns i).length) * 1 /\ (rU a ns i).length + (ofL (qL x)).size <= 9223372036854775807 /\ ((rU a ns i).length + (ofL (qL x)).size) * 1 <= 140737488355328 /\ True from by
    have h1 := Bm a ns i
    have h2 : (ofL (qL x)).size = 32 := rB x
    refine ⟨?_, ?_, ?_, tt0⟩ <;> (try simp only [qq, Ch.size]) <;> omega) (ai (show (bd == 0) = true from by simpa using h0) (ai (show DH (.inr x) from hb x (yp hx)) (ai (show (i : Int) = ((i : Nat) : Int) /\ i < 6 /\ qq [.n 4 x] = 4 /\ ((flat [.l (numC 4 ns)]).drop (i * 4)).take 4 = flat [.n 4 x] from ⟨rfl, hi, ze ns i x hx⟩) (ai (show decide ((i : Int) < 6) = true from decide_eq_true (by omega)) tt0))))))
theorem MI (ns : List Nat) (hm : ns.length = 6) (a : LU0) (hl : a.length <= 1000) (bd : Int) (i x : Nat) (hx : ns[i]? = some x) (hb : sm4 ns) (h0 : bd ≠ 0) : I1 (pnI ns (rU a ns i) bd (i : Int)).aa .normal (pnI ns (rU a ns (i + 1)) bd ((i + 1 : Nat) : Int)).aa := by
 have hi := zD hx
 rw [hm] at hi
 exact E8 [(61, wT), (62, { ch := 0, hi := fun _ => i, ru := 13, cs := fun _ => [.n 4 x] }), (73, wF), (80, xf)] 61 [(21, 80)] (ai (show ((tK 0) /\ flat [.l (numC 4 ns)] = flat [.l (numC 4 ns)] /\ (Value.int .i64 (IntKind.i64.wrap ((i : Int) + 1))) = (Value.int .i64 ((i + 1 : Nat) : Int)) /\ True) /\ ((159 = 159 /\ (true = true /\ (rU a ns i).length + (ofL (qL x)).size = (rU a ns (i + 1)).length) /\ (KH (.int .i64 bd)) /\ True) /\ ((5 = 5 /\ 1 = 1) /\ flat [.y (rU a ns i), .y (qL x)] = flat [.y (rU a ns (i + 1))]) /\ True) from ⟨⟨rr0, rfl, by rw [show IntKind.i64.wrap ((i : Int) + 1) = ((i + 1 : Nat) : Int) by rw [qj]; omega], tt0⟩, ⟨⟨rfl, ⟨rfl, by rw [yL hx, List.length_append]; rfl⟩, r30, tt0⟩, ⟨rr0, by rw [yL hx, si]; simp [flat, Ch.cells]⟩, tt0⟩⟩) (ai (show qq [.y (rU a ns i)] = ((rU a ns i).length) * 1 /\ (rU a ns i).length + (ofL (qL x)).size <= 9223372036854775807 /\ ((rU a ns i).length + (ofL (qL x)).size) * 1 <= 140737488355328 /\ True from by
    have h1 := Bm a ns i
    have h2 : (ofL (qL x)).size = 32 := rB x
    refine ⟨?_, ?_, ?_, tt0⟩ <;> (try simp only [qq, Ch.size]) <;> omega) (ai (show (bd == 0) = false from by simpa using h0) (ai (show DH (.inr x) from hb x (yp hx)) (ai (show (i : Int) = ((i : Nat) : Int) /\ i < 6 /\ qq [.n 4 x] = 4 /\ ((flat [.l (numC 4 ns)]).drop (i * 4)).take 4 = flat [.n 4 x] from ⟨rfl, hi, ze ns i x hx⟩) (ai (show decide ((i : Int) < 6) = true from decide_eq_true (by omega)) tt0))))))
theorem WF (ns : List Nat) (out : LU0) (bd : Int) : I1 (pnI ns out bd 6).aa (.exit 2) (pnE out bd).aa :=
 Cr [] 61 [4] [23, 21] trivial
theorem QE (ns : List Nat) (hm : ns.length = 6) (a : LU0) (hl : a.length <= 1000) (bd : Int) (hb : sm4 ns) : Sound prog 0 false (.loop (qc f14 1)) (pnI ns (rU a ns 0) bd ((0 : Nat) : Int)).aa (.exit 2) (pnE (rU a ns 6) bd).aa := by
 refine qw (m := fun y : { i : Nat // i <= 6 } => 6 - y.val) (fun y => pnI ns (rU a ns y.val) bd (y.val : Int)) (by simp) (fun y => ?_) ⟨0, by omega⟩
 obtain ⟨i, hi⟩ := y
 by_cases e : i < 6
 ·obtain ⟨x, hx⟩ := C3 (show i < ns.length by omega)
  refine .inl ⟨⟨i + 1, e⟩, by show 6 - (i + 1) < 6 - i; omega, ?_⟩
  by_cases h0 : bd = 0
  ·exact Mq ns hm a hl bd i x hx hb h0
  ·exact MI ns hm a hl bd i x hx hb h0
 ·have e : i = 6 := by omega
  subst e
  exact .inr (WF ns _ _)
theorem J8 {a : List XV} {r : AV} {b : Prop} (o : LO0) (hb : b) (h : fnA prog (qa _) [uQ, uf, uE] 1 (oL o) f14 a = some (r, b) := by kernel_rfl) (hv : ∃ v, r.val? = some v := by exact ⟨_, rfl⟩) : Gives prog 14 a r := p6 (P := prog) (X := qa _) (env := [uQ, uf, uE]) ⟨vi, uh, ue, tt0⟩ func14 1 (oL o) h hv hb
theorem aaE (p : PF) (hs : p.sm) (hc : ¬ re p.nums) : Gives prog 14 [.t (.ag p.ch)] Cu :=
 J8 [(16, wO 1)] (ai (show p.nums.length <= 1000000 /\ sm4 p.nums /\ ¬ re p.nums from ⟨by show 6 <= 1000000; decide, hs.2, hc⟩) tt0)
def V5 (p : PF) (hs : p.sm) (hc : re p.nums) := PLift.up (ai (show some (pfJ p) = some (pfJ p) from rfl) (ai ((Xo p p.pts rfl hs.1).pre [] (by kernel_rfl) (WU p)) (ai (show flat [.y mgP] = (ofL mgP).data.toList.map rf from si mgP) (ai (show p.nums.length <= 1000000 /\ sm4 p.nums /\ re p.nums from ⟨by show 6 <= 1000000; decide, hs.2, hc⟩) tt0))))
def Sc (p : PF) : Nat × Ora := (61, lpO { I := pnJ p (rt p.pts 9) (ptE p.pts), ex := .exit 2, E := pnE (rU (rt p.pts 9) p.nums 6) (ptE p.pts), fr := 62 })
abbrev Fq (p : PF) := pnJ p (rt p.pts 9) (ptE p.pts)
def Sd (p : PF) : Nat × Ora := (46, lpO { I := pfJ p, ex := .exit 0, E := pfE p (rt p.pts 9) (ptE p.pts), fr := 47 })
def Qe : Nat × Ora := (21, { ch := 0, hi := fun _ => 0, ex := 2, cs := fun _ => [.y mgP] })
theorem Yb (p : PF) (hs : p.sm) (hc : re p.nums) (h : ptE p.pts ≠ 0) : Gives prog 14 [.t (.ag p.ch)] (.tp [.v (.string (ofL [])), vi0 (ptE p.pts)]) :=
 J8 [(16, wO 0), Qe, (Sd p), (Sc p), (70, wT)] (ai (show (ptE p.pts != 0) = true from by simpa using h) (ai (show some (Fq p) = some (Fq p) from rfl) (ai ((QE p.nums rfl (rt p.pts 9) (by have h1 := vC p.pts 9; have h2 : p.pts.length = 9 := rfl; omega) (ptE p.pts) hs.2).pre [] (by kernel_rfl) (Oa p _ _))
   (V5 p hs hc).down)))
theorem U1 (p : PF) (hs : p.sm) (hc : re p.nums) (h : ptE p.pts = 0) : Gives prog 14 [.t (.ag p.ch)] (.tp [.v (.string (ofL (rU (rt p.pts 9) p.nums 6))), vi0 0]) :=
 J8 [(16, wO 0), Qe, (Sd p), (Sc p), (70, wF), (75, { ch := 0, hi := fun _ => 0, ru := 10, av := fun _ => .v (.string (ofL (rU (rt p.pts 9) p.nums 6))) })] (ai (show (flat [.y (rU (rt p.pts 9) p.nums 6)]).take (rU (rt p.pts 9) p.nums 6).length = (ofL (rU (rt p.pts 9) p.nums 6)).data.toList.map rf /\ (rU (rt p.pts 9) p.nums 6).length = (ofL (rU (rt p.pts 9) p.nums 6)).size from ⟨by rw [si, List.take_of_length_le (by simp)]; rfl, rfl⟩) (ai (show (ptE p.pts != 0) = false from by rw [h]; rfl) (ai (show some (Fq p) = some (Fq p) from rfl) (ai ((QE p.nums rfl (rt p.pts 9) (by have h1 := vC p.pts 9; have h2 : p.pts.length = 9 := rfl; omega) (ptE p.pts) hs.2).pre [] (by kernel_rfl) (Oa p _ _))
   (V5 p hs hc).down))))
instance (ns : List Nat) : Decidable (re ns) := by unfold re; infer_instance
def vp (p : PF) : Int := if re p.nums then ptE p.pts else 1
def pfS (p : PF) : LU0 := if vp p = 0 then (mgP ++ qW p.pts) ++ numB p.nums else []
theorem Xr (p : PF) : (rU (rt p.pts 9) p.nums 6) = (mgP ++ qW p.pts) ++ numB p.nums := rfl
theorem Dn (p : PF) (hs : p.sm) : Gives prog 14 [.t (.ag p.ch)] (.tp [.v (.string (ofL (pfS p))), vi0 (vp p)]) := by
 by_cases hc : re p.nums
 ·have e : vp p = ptE p.pts := if_pos hc
  by_cases h : ptE p.pts = 0
  ·rw [show pfS p = (rU (rt p.pts 9) p.nums 6) from (if_pos (by rw [e, h])).trans (Xr p).symm, e, h]
   exact U1 p hs hc h
  ·rw [show pfS p = [] from if_neg (by rw [e]; exact h), e]
   exact Yb p hs hc h
 ·have e : vp p = 1 := if_neg hc
  rw [show pfS p = [] from if_neg (by rw [e]; decide), e]
  exact aaE p hs hc
end Go.Proofs.YtokjhbmmdmeafaaGreat
set_option linter.unusedSimpArgs false
set_option linter.unusedVariables false
namespace Go.Proofs.YtokjhbmmdmeafaaGreat
open Go.Ev Go.RowKit
open Tryz
def Fa : Entry := y8 13 [(none, .v (.bool true))]
theorem Jr : Fa.OK prog := wh (fun args w => Go.Proofs.enters_of (P := prog) func13 (by kernel_rfl) rfl args w) (only (p6 (P := prog) (X := qa _) (env := [wo]) ⟨uv, tt0⟩ func13 8 (oL [(32, { ch := 0, hi := fun _ => 0, ex := 2, cs := fun _ => [.y [67, 72, 87, 49]] }), (96, wT)]) (by kernel_rfl) ⟨_, rfl⟩ (ai (show true = true from rfl) (ai (show flat [.y [67, 72, 87, 49]] = (ofL [67, 72, 87, 49]).data.toList.map rf from si _) tt0))))
def bd (l : List GT) : Int := if (∀ g, g ∈ l -> rZ g) then 0 else 1
end Go.Proofs.YtokjhbmmdmeafaaGreat
