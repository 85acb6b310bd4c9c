/- Pruned: Kc. -/
import Derived.Test.YtfbkefgoblcmpaaGreatQKb
import Derived.Test.YtfbkefgoblcmpaaGreatQGc
import Derived.Test.YtfbkefgoblcmpaaGreatQHd
import Derived.Test.YtfbkefgoblcmpaaGreatQHa
import Derived.Test.YtfbkefgoblcmpaaGreatQIa
import Derived.Test.YtfbkefgoblcmpaaGreatQHf
import Derived.Test.YtfbkefgoblcmpaaGreatQGa
set_option linter.unusedSimpArgs false
set_option linter.unusedVariables false
namespace Go.Proofs.YtfbkefgoblcmpaaGreat
open Go.Ev Go.RowKit
open Tryz
def Lz : Entry := sq 95 tn.x vw.x (fun a n => [(none, .ag (m2 (scl2 a n)))])
theorem GD : Lz.OK prog := q6 (fun args w => Go.Proofs.enters_of (P := prog) func95 (by kernel_rfl) rfl args w)
 (fun a n => only (qa (P := prog) (env := [rf]) ⟨qB, tt0⟩ func95 0 o0 (by kernel_rfl) tt0))
def Tt (a b c : F2) : List Ch := m2 a ++ m2 b ++ List.replicate 24 (.c (.int .u64 0)) ++ m2 c ++ List.replicate 12 (.c (.int .u64 0))
theorem Ky (a b c : F2) : flat (Tt a b c) = flat (m12 (lin12 a b c)) := by
 unfold Tt
 have h12 : flat (List.replicate 12 (.c (.int .u64 0))) = flat (m2 (0, 0)) := by kernel_rfl
 have h24 : flat (List.replicate 24 (.c (.int .u64 0))) = flat (m2 (0, 0) ++ m2 (0, 0)) := by kernel_rfl
 rw [qk, qk, qk, qk, h12, h24]
 rw [← qk, ← qk, ← qk, ← qk]
 rfl
def MJ : Entry := Ak 94 tn.x tn.x tn.x (fun a b c => [(none, .ag (m12 (lin12 a b c)))])
theorem Gv : MJ.OK prog := yC (fun args w => Go.Proofs.enters_of (P := prog) func94 (by kernel_rfl) rfl args w)
 (fun a b c => only (Go.Ev.Gives.same (qa (P := prog) (env := []) trivial func94 0 o0 (r := .ag (Tt a b c)) (by kernel_rfl) tt0) (qX rfl rfl (Ky a b c)).symm))
def Tl : Entry := Ak 79 zg.x vw.x vw.x (fun t x y => [(none, .ag (m12 (tchL t x y)))])
theorem Kl : Tl.OK prog := yC (fun args w => Go.Proofs.enters_of (P := prog) func79 (by kernel_rfl) rfl args w)
 (fun t x y => only (qa (P := prog) (env := [sv, sV, rD, Iy, Lz, MJ]) ⟨qU, rC, qG, Bw, GD, Gv, tt0⟩ func79 0 o0 (by kernel_rfl) tt0))
def Hu {α β γ δ : Type} (f : FuncId) (a : XPar α) (b : XPar β) (c : XPar γ) (d : XPar δ) (res : α -> β -> γ -> δ -> ve) : Entry :=
 ⟨f, fun _ => fun | [x, y, z, u] => (match a.p x, b.p y, c.p z, d.p u with | some p, some q, some r, some s => res p q r s | _, _, _, _ => []) | _ => []⟩
theorem KX {P : Program} {α β γ δ : Type} {f : FuncId} {a : XPar α} {b : XPar β} {c : XPar γ} {d : XPar δ} {res : α -> β -> γ -> δ -> ve} (he : ∀ args w, (callFunc f args).run P w = .ok (.enter f args) w)
  (h : ∀ u v t s k r, (k, r) ∈ res u v t s -> k.getD True -> Gives P f [a.c u, b.c v, c.c t, d.c s] r) : (Hu f a b c d res).OK P := by
 intro _ args k r hm hc
 simp only [Hu] at hm
 split at hm
 ·rename_i x y z s
  split at hm
  ·rename_i u v t s' hu hv ht hs
   obtain ⟨z, h1, h2⟩ := h u v t s' k r hm hc
   refine ⟨z, h1, fun w vs hx => ?_⟩
   match vs, hx with
   | [p, q, s, y], hx => exact .inr ⟨he _ _, h2 w [p, q, s, y] ⟨a.ok _ _ hu _ _ hx.1, b.ok _ _ hv _ _ hx.2.1, c.ok _ _ ht _ _ hx.2.2.1, d.ok _ _ hs _ _ hx.2.2.2.1, tt0⟩⟩
  ·cases hm
 ·cases hm
def Xs : Entry := Hu 80 zg.x zg.x vw.x vw.x (fun t q x y => [(none, .ag (m12 (Ii t q x y)))])
theorem LR : Xs.OK prog := KX (fun args w => Go.Proofs.enters_of (P := prog) func80 (by kernel_rfl) rfl args w)
 (fun t q x y => only (qa (P := prog) (env := [sv, sV, rD, Iy, Lz, MJ]) ⟨qU, rC, qG, Bw, GD, Gv, tt0⟩ func80 0 o0 (by kernel_rfl) tt0))
end Go.Proofs.YtfbkefgoblcmpaaGreat
set_option linter.unusedSimpArgs false
set_option linter.unusedVariables false
namespace Go.Proofs.YtfbkefgoblcmpaaGreat
open Go.Ev Go.RowKit
open Tryz
def RM : Par Nat where
 p l := match l with
  | .n w x :: r => if Nat.beq w 1 then some (x, r) else qL 1 (.n w x :: r)
  | l => qL 1 l
 c x := [.n 1 x]
 pure _ := rfl
 ok l x r h := by
  split at h
  ·split at h
   ·rename_i hw
    have := Nat.eq_of_beq_eq_true hw
    subst this
    simp only [oi0, pi0] at h; obtain ⟨rfl, rfl⟩ := h; simp [flat, Ch.cells]
   ·have := rG _ _ _ _ h
    simp [this]
    simp [flat, Ch.cells]
  ·have := rG _ _ _ _ h
   simp [flat, Ch.cells, this]
theorem QJ (a : Nat) (g : a / 18446744073709551616 ^ 0 % 18446744073709551616 ≠ 0) : Gives prog 93 [.rd [.n 1 a] 1 1] (vi0 (IntKind.i64.wrap (0 + ((Lib.bitLen (a / 18446744073709551616 ^ 0 % 18446744073709551616) : Nat) : Int)))) :=
 qb (P := prog) (X := tL) (env := [vQ]) ⟨sQ, tt0⟩ func93 1 (oN [] [(25, 1)]) (by kernel_rfl) ⟨_, rfl⟩ (ai (show (!decide (a / 18446744073709551616 ^ 0 % 18446744073709551616 = 0)) = true from by rw [decide_eq_false g]; rfl) tt0)
theorem QB (a : Nat) (h0 : a / 18446744073709551616 ^ 0 % 18446744073709551616 = 0) : Gives prog 93 [.rd [.n 1 a] 1 1] (vi0 0) :=
 qb (P := prog) (X := tL) (env := [vQ]) ⟨sQ, tt0⟩ func93 1 (oN [] [(25, 2)]) (by kernel_rfl) ⟨_, rfl⟩ (ai (show (!decide (a / 18446744073709551616 ^ 0 % 18446744073709551616 = 0)) = false from by rw [decide_eq_true h0]; rfl) tt0)
theorem Yr (a : Nat) (ha : a < 18446744073709551616 ^ 1) : Gives prog 93 [.rd [.n 1 a] 1 1] (vi0 ((nbits 1 a : Nat) : Int)) := by
 rcases Decidable.em (a / 18446744073709551616 ^ 0 % 18446744073709551616 = 0) with h0 | h0
 rotate_left
 ·refine (QJ a  h0).same ?_
  have hb := Lib.bitLen_le (a / 18446744073709551616 ^ 0 % 18446744073709551616) 64 (Nat.le_refl _) (Nat.mod_lt _ (by decide))
  have e : nbits 1 a = 0 + Lib.bitLen (a / 18446744073709551616 ^ 0 % 18446744073709551616) := by simp only [nbits, if_neg h0]
  rw [e]
  exact congrArg (fun z => some (Value.int .i64 z)) (tR 0 _ (by decide) hb).symm
 refine (QB a h0).same ?_
 have e : nbits 1 a = 0 := by simp only [nbits, if_pos h0]
 rw [e]
 rfl
def HR : Entry := qA 93 (XPar.rd 1 RM (fun _ => rfl)) (fun a => [(some (a < 18446744073709551616 ^ 1), vi0 ((nbits 1 a : Nat) : Int))])
theorem DS : HR.OK prog := qj (fun args w => Go.Proofs.enters_of (P := prog) func93 (by kernel_rfl) rfl args w) (fun a => sZ (fun h => Yr a h))
end Go.Proofs.YtfbkefgoblcmpaaGreat
set_option linter.unusedSimpArgs false
set_option linter.unusedVariables false
namespace Go.Proofs.YtfbkefgoblcmpaaGreat
open Go.Ev Go.RowKit
open Tryz
def mlI (r : Array Tmp × Code × Code) (a b : F2) (q : Pt2) (x y : Fin Pp) (c : Bool) (z : Int) (t : Pt2) (f : F12) : LState := { n := 24, sl := [(0, .yd 32), (1, .p 27 0), (3, vi0 z)], hp := [(0, .own [.q x, .q y, .c (.bool false)] 39), (1, .own [.q a.1, .q a.2, .q b.1, .q b.2, .c (.bool false)] 33), (2, .own (List.replicate 72 (.c (.int .u64 0))) 77), (9, .own [.m x] 51), (10, .own [.m y] 51), (15, .own (pc2 q) 55), (19, .own (pc2 t) 55), (20, .own (m12 f) 77), (23, .own [.c (.bool c)] 4), (25, .own [.c (.int .u64 15132376222941642752)] 23), (27, .own [.sl 25 0 1 1] 118), (31, .dfd),
 (32, .lp .ready none ⟨49, .any, trOf [(4, .p 2 0), (5, .p 9 0), (6, .p 10 0), (7, .p 15 0), (8, .p 19 0), (9, .p 20 0), (10, .p 23 0)]⟩ r.1 r.2.1 r.2.2 31)] }
def mlZ (r : Array Tmp × Code × Code) (a b : F2) (q : Pt2) (x y : Fin Pp) (c : Bool) (t : Pt2) (f : F12) : LState := { n := 24, sl := [], hp := [(0, .own [.q x, .q y, .c (.bool false)] 39), (1, .own [.q a.1, .q a.2, .q b.1, .q b.2, .c (.bool false)] 33), (2, .own (List.replicate 72 (.c (.int .u64 0))) 77), (9, .own [.m x] 51), (10, .own [.m y] 51), (15, .own (pc2 q) 55), (19, .own (pc2 t) 55), (20, .own (m12 f) 77), (23, .own [.c (.bool c)] 4), (25, .own [.c (.int .u64 15132376222941642752)] 23), (27, .own [.sl 25 0 1 1] 118), (31, .dfd),
 (32, .lp .ready none ⟨49, .any, trOf [(4, .p 2 0), (5, .p 9 0), (6, .p 10 0), (7, .p 15 0), (8, .p 19 0), (9, .p 20 0), (10, .p 23 0)]⟩ r.1 r.2.1 r.2.2 31)] }
theorem Jf (e i : Nat) (hi : i < 64) : (e % 18446744073709551616 / 2 ^ i % 18446744073709551616 &&& 1) % 18446744073709551616 = if Nat.testBit e i then 1 else 0 := by
 have h0 : e % 18446744073709551616 / 2 ^ i < 18446744073709551616 := Nat.lt_of_le_of_lt (Nat.div_le_self _ _) (Nat.mod_lt _ (by decide))
 rw [Nat.mod_eq_of_lt h0, Nat.and_one_is_mod, Nat.testBit_eq_decide_div_mod_eq]
 have h1 : e % 18446744073709551616 / 2 ^ i % 2 = e / 2 ^ i % 2 := by
  have e2 : (18446744073709551616 : Nat) = 2 ^ i * 2 ^ (64 - i) := by rw [← Nat.pow_add, show i + (64 - i) = 64 by omega]
  rw [e2, Nat.mod_mul_right_div_self]
  have h2 : (2 : Nat) ∣ 2 ^ (64 - i) := by
   have := Nat.pow_dvd_pow 2 (show 1 <= 64 - i by omega)
   simpa using this
  exact Nat.mod_mod_of_dvd _ h2
 rw [h1]
 rcases Nat.mod_two_eq_zero_or_one (e / 2 ^ i) with h | h <;> simp [h]
theorem aaf (a b : F2) (q t : Pt2) (x y : Fin Pp) (f : F12) (f2 tc f3 th f4 : F12) (t2 t3 : Pt2) (e i : Nat) (he : e = 15132376222941642752) (hi : i < 64) (hb : Nat.testBit e i = true) (hT : ∀ z ∈ ([([.t (.ag (m12 f)), .t (.ag (m12 f))], .ag (m12 f2)), ([.t (.ag (m12 f2)), .t (.ag (m12 tc))], .ag (m12 f3)), ([.t (.ag (m12 f3)), .t (.ag (m12 th))], .ag (m12 f4))] : List (List XV × AV)), Tells prog 29 z.1 z.2) (hO : ∀ z ∈ ([([.t (.ag (pc2 t)), .t (.ag [.m x]), .t (.ag [.m y])], .ag (m12 tc))] : List (List XV × AV)), Tells prog 79 z.1 z.2) (hW : ∀ z ∈ ([([.t (.ag (pc2 t))], .ag (pc2 t2))] : List (List XV × AV)), Tells prog 40 z.1 z.2) (hH : ∀ z ∈ ([([.t (.ag (pc2 t2)), .t (.ag (pc2 q)), .t (.ag [.m x]), .t (.ag [.m y])], .ag (m12 th))] : List (List XV × AV)), Tells prog 80 z.1 z.2) (hP : ∀ z ∈ ([([.t (.ag (pc2 t2)), .t (.ag (pc2 q))], .ag (pc2 t3))] : List (List XV × AV)), Tells prog 38 z.1 z.2) : Sound prog 33 false (ql f92 0) (mlI (qd f57 0) a b q x y false (((i + 1 : Nat) : Int) - 1) t f).aa .normal (mlI (qd f57 0) a b q x y false (((i : Nat) : Int) - 1) t3 f4).aa := by
 have hs := qh (P := prog) (X := qE _) (env := [eTo 29 [([.t (.ag (m12 f)), .t (.ag (m12 f))], .ag (m12 f2)), ([.t (.ag (m12 f2)), .t (.ag (m12 tc))], .ag (m12 f3)), ([.t (.ag (m12 f3)), .t (.ag (m12 th))], .ag (m12 f4))], eTo 79 [([.t (.ag (pc2 t)), .t (.ag [.m x]), .t (.ag [.m y])], .ag (m12 tc))], eTo 40 [([.t (.ag (pc2 t))], .ag (pc2 t2))], eTo 80 [([.t (.ag (pc2 t2)), .t (.ag (pc2 q)), .t (.ag [.m x]), .t (.ag [.m y])], .ag (m12 th))], eTo 38 [([.t (.ag (pc2 t2)), .t (.ag (pc2 q))], .ag (pc2 t3))]]) ⟨qf hT, qf hO, qf hW, qf hH, qf hP, tt0⟩ (n := 2) (os := (oL [(41, wO 1), (46, rO 2 0), (47, { ch := 0, hi := fun _ => 0, ru := 8, av := fun _ => .u e }), (50, rO 4 i), (52, wO 1), (58, wO 0), (62, wO 0), (63, wO 1), (66, wO 0), (74, wO 0), (75, wO 2), (79, wO 0)])) (fb := 33) (rd := false) (c := (ql f92 0)) (k := 40) (I := mlI (qd f57 0) a b q x y false (((i + 1 : Nat) : Int) - 1) t f) (sk := [0, 1, 3]) (hk := [0, 1, 2, 9, 10, 15, 19, 20, 23, 25, 27, 31, 32]) (lk := [(32, [4, 5, 6, 7, 8, 9, 10])]) (ex := .normal)
  (L := mlI (qd f57 0) a b q x y false (IntKind.i64.wrap ((((i + 1 : Nat) : Int) - 1) - 1)) t3 f4) (by kernel_rfl) (ai (show ([.t (.ag (pc2 t2)), .t (.ag (pc2 q))] : List XV) = [.t (.ag (pc2 t2)), .t (.ag (pc2 q))] from rfl) (ai (show ([.t (.ag (m12 f3)), .t (.ag (m12 th))] : List XV) = [.t (.ag (m12 f3)), .t (.ag (m12 th))] from rfl) (ai (show ([.t (.ag (pc2 t2)), .t (.ag (pc2 q)), .t (.ag [.m x]), .t (.ag [.m y])] : List XV) = [.t (.ag (pc2 t2)), .t (.ag (pc2 q)), .t (.ag [.m x]), .t (.ag [.m y])] from rfl) (ai (show ([.t (.ag (pc2 t))] : List XV) = [.t (.ag (pc2 t))] from rfl) (ai (show ([.t (.ag (m12 f2)), .t (.ag (m12 tc))] : List XV) = [.t (.ag (m12 f2)), .t (.ag (m12 tc))] from rfl) (ai (show ([.t (.ag (pc2 t)), .t (.ag [.m x]), .t (.ag [.m y])] : List XV) = [.t (.ag (pc2 t)), .t (.ag [.m x]), .t (.ag [.m y])] from rfl) (ai (show ([.t (.ag (m12 f)), .t (.ag (m12 f))] : List XV) = [.t (.ag (m12 f)), .t (.ag (m12 f))] from rfl) (ai (show decide ((e % 18446744073709551616 / 2 ^ i % 18446744073709551616 &&& 1) % 18446744073709551616 = 1) = true from by rw [Jf e i hi, hb]; rfl) (ai (show (((i + 1 : Nat) : Int) - 1).tmod 64 = ((i : Nat) : Int) /\ i < 64 from ⟨by rw [show (((i + 1 : Nat) : Int) - 1) = ((i : Nat) : Int) by omega, yY i, Nat.mod_eq_of_lt hi], hi⟩) (ai (show (flat [.c (.int .u64 15132376222941642752)])[0 + 0 * 1]? = some (u64 e) from by rw [he]; rfl) (ai (show IntKind.i64.wrap ((((i + 1 : Nat) : Int) - 1).tdiv 64) = ((0 : Nat) : Int) /\ 0 < 1 from ⟨by rw [show (((i + 1 : Nat) : Int) - 1) = ((i : Nat) : Int) by omega, yX i (by omega), Nat.div_eq_of_lt hi], by decide⟩) (ai (show decide (((((i + 1 : Nat) : Int)) - 1) >= 0) = true from decide_eq_true (by omega)) tt0))))))))))))
 have e1 : IntKind.i64.wrap ((((i + 1 : Nat) : Int) - 1) - 1) = ((i : Nat) : Int) - 1 := by rw [qm]; omega
 rw [e1] at hs
 exact hs
theorem ZY (a b : F2) (q t : Pt2) (x y : Fin Pp) (f : F12) (f2 tc f3 : F12) (t2 : Pt2) (e i : Nat) (he : e = 15132376222941642752) (hi : i < 64) (hb : Nat.testBit e i = false) (hT : ∀ z ∈ ([([.t (.ag (m12 f)), .t (.ag (m12 f))], .ag (m12 f2)), ([.t (.ag (m12 f2)), .t (.ag (m12 tc))], .ag (m12 f3))] : List (List XV × AV)), Tells prog 29 z.1 z.2) (hO : ∀ z ∈ ([([.t (.ag (pc2 t)), .t (.ag [.m x]), .t (.ag [.m y])], .ag (m12 tc))] : List (List XV × AV)), Tells prog 79 z.1 z.2) (hW : ∀ z ∈ ([([.t (.ag (pc2 t))], .ag (pc2 t2))] : List (List XV × AV)), Tells prog 40 z.1 z.2) : Sound prog 33 false (ql f92 0) (mlI (qd f57 0) a b q x y false (((i + 1 : Nat) : Int) - 1) t f).aa .normal (mlI (qd f57 0) a b q x y false (((i : Nat) : Int) - 1) t2 f3).aa := by
 have hs := qh (P := prog) (X := qE _) (env := [eTo 29 [([.t (.ag (m12 f)), .t (.ag (m12 f))], .ag (m12 f2)), ([.t (.ag (m12 f2)), .t (.ag (m12 tc))], .ag (m12 f3))], eTo 79 [([.t (.ag (pc2 t)), .t (.ag [.m x]), .t (.ag [.m y])], .ag (m12 tc))], eTo 40 [([.t (.ag (pc2 t))], .ag (pc2 t2))]]) ⟨qf hT, qf hO, qf hW, tt0⟩ (n := 2) (os := (oL [(41, wO 1), (46, rO 2 0), (47, { ch := 0, hi := fun _ => 0, ru := 8, av := fun _ => .u e }), (50, rO 4 i), (52, wO 2), (58, wO 0), (62, wO 0), (63, wO 1), (66, wO 0)])) (fb := 33) (rd := false) (c := (ql f92 0)) (k := 40) (I := mlI (qd f57 0) a b q x y false (((i + 1 : Nat) : Int) - 1) t f) (sk := [0, 1, 3]) (hk := [0, 1, 2, 9, 10, 15, 19, 20, 23, 25, 27, 31, 32]) (lk := [(32, [4, 5, 6, 7, 8, 9, 10])]) (ex := .normal)
  (L := mlI (qd f57 0) a b q x y false (IntKind.i64.wrap ((((i + 1 : Nat) : Int) - 1) - 1)) t2 f3) (by kernel_rfl) (ai (show ([.t (.ag (pc2 t))] : List XV) = [.t (.ag (pc2 t))] from rfl) (ai (show ([.t (.ag (m12 f2)), .t (.ag (m12 tc))] : List XV) = [.t (.ag (m12 f2)), .t (.ag (m12 tc))] from rfl) (ai (show ([.t (.ag (pc2 t)), .t (.ag [.m x]), .t (.ag [.m y])] : List XV) = [.t (.ag (pc2 t)), .t (.ag [.m x]), .t (.ag [.m y])] from rfl) (ai (show ([.t (.ag (m12 f)), .t (.ag (m12 f))] : List XV) = [.t (.ag (m12 f)), .t (.ag (m12 f))] from rfl) (ai (show decide ((e % 18446744073709551616 / 2 ^ i % 18446744073709551616 &&& 1) % 18446744073709551616 = 1) = false from by rw [Jf e i hi, hb]; rfl) (ai (show (((i + 1 : Nat) : Int) - 1).tmod 64 = ((i : Nat) : Int) /\ i < 64 from ⟨by rw [show (((i + 1 : Nat) : Int) - 1) = ((i : Nat) : Int) by omega, yY i, Nat.mod_eq_of_lt hi], hi⟩) (ai (show (flat [.c (.int .u64 15132376222941642752)])[0 + 0 * 1]? = some (u64 e) from by rw [he]; rfl) (ai (show IntKind.i64.wrap ((((i + 1 : Nat) : Int) - 1).tdiv 64) = ((0 : Nat) : Int) /\ 0 < 1 from ⟨by rw [show (((i + 1 : Nat) : Int) - 1) = ((i : Nat) : Int) by omega, yX i (by omega), Nat.div_eq_of_lt hi], by decide⟩) (ai (show decide (((((i + 1 : Nat) : Int)) - 1) >= 0) = true from decide_eq_true (by omega)) tt0)))))))))
 have e1 : IntKind.i64.wrap ((((i + 1 : Nat) : Int) - 1) - 1) = ((i : Nat) : Int) - 1 := by rw [qm]; omega
 rw [e1] at hs
 exact hs
theorem IP (t : Pt2) (x y : Fin Pp) : Tells prog 79 [.t (.ag (pc2 t)), .t (.ag [.m x]), .t (.ag [.m y])] (.ag (m12 (tchL t x y))) := qT Kl (by kernel_rfl)
theorem Tu (t q : Pt2) (x y : Fin Pp) : Tells prog 80 [.t (.ag (pc2 t)), .t (.ag (pc2 q)), .t (.ag [.m x]), .t (.ag [.m y])] (.ag (m12 (Ii t q x y))) := qT LR (by kernel_rfl)
theorem LV (t : Pt2) : Tells prog 40 [.t (.ag (pc2 t))] (.ag (pc2 (rq t))) := qT r7 (by kernel_rfl)
theorem Vc (t q : Pt2) : Tells prog 38 [.t (.ag (pc2 t)), .t (.ag (pc2 q))] (.ag (pc2 (vr t q))) := qT vn (by kernel_rfl)
theorem uf (a b : F12) : Tells prog 29 [.t (.ag (m12 a)), .t (.ag (m12 b))] (.ag (m12 (mul12 a b))) := qT vM (by kernel_rfl)
theorem LE (a b : F2) (q t : Pt2) (x y : Fin Pp) (f : F12) : Sound prog 33 false (ql f92 0) (mlI (qd f57 0) a b q x y true 63 t f).aa .normal (mlI (qd f57 0) a b q x y false 62 t f).aa :=
 qh (P := prog) (X := qE _) (env := []) trivial (n := 2) (os := oL []) (fb := 33) (rd := false) (c := (ql f92 0)) (k := 40) (I := mlI (qd f57 0) a b q x y true 63 t f) (sk := [0, 1, 3]) (hk := [0, 1, 2, 9, 10, 15, 19, 20, 23, 25, 27, 31, 32]) (lk := [(32, [4, 5, 6, 7, 8, 9, 10])]) (ex := .normal)
  (L := mlI (qd f57 0) a b q x y false 62 t f) (by kernel_rfl) trivial
theorem Uq (a b : F2) (q t : Pt2) (x y : Fin Pp) (f : F12) (c : Bool) : Sound prog 33 false (ql f92 0) (mlI (qd f57 0) a b q x y c (((0 : Nat) : Int) - 1) t f).aa (.exit 0) (mlZ (qd f57 0) a b q x y c t f).aa :=
 qh (P := prog) (X := qE _) (env := []) trivial (n := 2) (os := oL [(41, wO 2)]) (fb := 33) (rd := false) (c := (ql f92 0)) (k := 40) (I := mlI (qd f57 0) a b q x y c (((0 : Nat) : Int) - 1) t f) (sk := []) (hk := [0, 1, 2, 9, 10, 15, 19, 20, 23, 25, 27, 31, 32]) (lk := [(32, [4, 5, 6, 7, 8, 9, 10])]) (ex := .exit 0)
  (L := mlZ (qd f57 0) a b q x y c t f) (by kernel_rfl) (ai (show decide ((((0 : Nat) : Int) - 1) >= 0) = false from by decide) tt0)
theorem QO (a b : F2) (q : Pt2) (x y : Fin Pp) (e i : Nat) (he : e = 15132376222941642752) (hi : i < 63) (s : Pt2 × F12) : Sound prog 33 false (ql f92 0) (mlI (qd f57 0) a b q x y false (((i + 1 : Nat) : Int) - 1) s.1 s.2).aa .normal (mlI (qd f57 0) a b q x y false (((i : Nat) : Int) - 1) (Kg q x y s (Nat.testBit e i)).1 (Kg q x y s (Nat.testBit e i)).2).aa := by
 cases hb : Nat.testBit e i with
 | true => exact aaf a b q s.1 x y s.2 _ _ _ _ _ _ _ e i he (by omega) hb (qe (uf s.2 s.2) (qe (uf _ _) (qe (uf _ _) qw))) (qe (IP s.1 x y) qw) (qe (LV s.1) qw) (qe (Tu (rq s.1) q x y) qw) (qe (Vc (rq s.1) q) qw)
 | false => exact ZY a b q s.1 x y s.2 _ _ _ _ e i he (by omega) hb (qe (uf s.2 s.2) (qe (uf _ _) qw)) (qe (IP s.1 x y) qw) (qe (LV s.1) qw)
theorem Tw (a b : F2) (q : Pt2) (x y : Fin Pp) (e : Nat) (he : e = 15132376222941642752) (y0 : Option { i : Nat // i <= 63 }) : Sound prog 33 false (.loop (ql f92 0)) (match y0 with | none => mlI (qd f57 0) a b q x y true 63 q one12 | some y0 => mlI (qd f57 0) a b q x y false (((y0.val : Nat) : Int) - 1) (milN e q x y (63 - y0.val)).1 (milN e q x y (63 - y0.val)).2).aa (.exit 0) (mlZ (qd f57 0) a b q x y false (milN e q x y 63).1 (milN e q x y 63).2).aa := by
 refine sT (m := fun y0 : Option { i : Nat // i <= 63 } => match y0 with | none => 64 | some y0 => y0.val) (fun y0 => match y0 with | none => mlI (qd f57 0) a b q x y true 63 q one12 | some y0 => mlI (qd f57 0) a b q x y false (((y0.val : Nat) : Int) - 1) (milN e q x y (63 - y0.val)).1 (milN e q x y (63 - y0.val)).2) (by simp) (fun y0 => ?_) y0
 match y0 with
 | none => exact .inl ⟨some ⟨63, by omega⟩, Nat.lt_succ_self 63, LE a b q q x y one12⟩
 | some ⟨0, hi⟩ => exact .inr (Uq a b q _ x y _ false)
 | some ⟨i + 1, hi⟩ =>
  refine .inl ⟨some ⟨i, by omega⟩, Nat.lt_succ_self i, ?_⟩
  have h := QO a b q x y e i he (by omega) (milN e q x y (63 - (i + 1)))
  have e2 : milN e q x y (63 - i) = Kg q x y (milN e q x y (63 - (i + 1))) (Nat.testBit e i) := by
   rw [show 63 - i = (63 - (i + 1)) + 1 by omega]
   show Kg q x y (milN e q x y (63 - (i + 1))) (Nat.testBit e (62 - (63 - (i + 1)))) = _
   rw [show 62 - (63 - (i + 1)) = i by omega]
  rw [← e2] at h
  exact h
abbrev IJ (qx : F2) (qy : F2) : List XV := [.t (.ag [.q qx.1, .q qx.2, .q qy.1, .q qy.2, .c (.bool false)])]
theorem Oe (x y : Fin Pp) (qx qy : F2) (q t : Pt2) (F G : F12) (hq : Tells prog 14 (IJ qx qy) (.ag (pc2 q))) (hG : Tells prog 58 [.t (.ag (m12 F))] (.ag (m12 G)))
  (h : Sound prog 33 false (.loop (ql f92 0)) (mlI (qd f57 0) qx qy q x y true 63 q one12).aa (.exit 0) (mlZ (qd f57 0) qx qy q x y false t F).aa) : Gives prog 57 [.t (.ag [.q x, .q y, .c (.bool false)]), .t (.ag [.q qx.1, .q qx.2, .q qy.1, .q qy.2, .c (.bool false)])] (.ag (m12 G)) :=
 qb (P := prog) (X := qE _) (env := [Dl, eTo 14 [((IJ qx qy), .ag (pc2 q))], z4, HR, eTo 58 [([.t (.ag (m12 F))], .ag (m12 G))]]) ⟨xw, qf (qe hq qw), sD, DS, qf (qe hG qw), tt0⟩ func57 3 (oL [(14, wO 0), (37, lpO { I := mlI (qd f57 0) qx qy q x y true 63 q one12, ex := .exit 0, E := mlZ (qd f57 0) qx qy q x y false t F, fr := 60, lk := [(32, [4, 5, 6, 7, 8, 9, 10])] })]) (by kernel_rfl) ⟨_, rfl⟩ (ai (show ([.t (.ag (m12 F))] : List XV) = [.t (.ag (m12 F))] from rfl) (ai (show some (mlI (qd f57 0) qx qy q x y true 63 q one12) = some (mlI (qd f57 0) qx qy q x y true 63 q one12) from rfl) (ai h (ai (show (15132376222941642752 : Nat) < 18446744073709551616 ^ 1 from by decide) (ai (show ((IJ qx qy) : List XV) = (IJ qx qy) from rfl) tt0)))))
theorem Sz (x y : F2) : in2 ((x.1.val, x.2.val), (y.1.val, y.2.val), false) = (x, y, one2) := by
 unfold in2
 rw [if_neg (by simp)]
 show (of2 (x.1.val, x.2.val), of2 (y.1.val, y.2.val), ((1, 0) : F2)) = _
 unfold of2
 have h : ∀ z : Fin Pp, ofP z.val = z := fun z => by unfold ofP; exact Fin.ofNat_val_eq_self z
 rw [h, h, h, h]; rfl
theorem BC (x y : F2) (b : Bool) : sml2 ((x.1.val, x.2.val), (y.1.val, y.2.val), b) :=
 have h : ∀ z : Fin Pp, small z.val := fun z => Nat.lt_trans z.isLt (by decide)
 ⟨⟨h _, h _⟩, ⟨h _, h _⟩⟩
theorem YT (qx qy : F2) : Tells prog 14 [.t (.ag [.q qx.1, .q qx.2, .q qy.1, .q qy.2, .c (.bool false)])] (.ag (pc2 (qx, qy, one2))) := by
 have h := Fx yf (args := [.t (.ag [.q qx.1, .q qx.2, .q qy.1, .q qy.2, .c (.bool false)])]) (r := .ag (pc2 (in2 ((qx.1.val, qx.2.val), (qy.1.val, qy.2.val), false)))) (c := sml2 ((qx.1.val, qx.2.val), (qy.1.val, qy.2.val), false)) (by kernel_rfl) (BC qx qy false)
 rw [Sz] at h
 exact h
def Xk (x y : Fin Pp) (qx qy : F2) (e : Nat) : F12 := conj12 (milN e (qx, qy, one2) x y 63).2
theorem PS (a : F12) : Tells prog 58 [.t (.ag (m12 a))] (.ag (m12 (conj12 a))) := qT Cs (by kernel_rfl)
theorem LL (x y : Fin Pp) (qx qy : F2) (e : Nat) (he : e = 15132376222941642752) : Gives prog 57 [.t (.ag [.q x, .q y, .c (.bool false)]), .t (.ag [.q qx.1, .q qx.2, .q qy.1, .q qy.2, .c (.bool false)])] (.ag (m12 (Xk x y qx qy e))) :=
 Oe x y qx qy _ _ _ _ (YT qx qy) (PS _) (Tw qx qy (qx, qy, one2) x y e he none)
end Go.Proofs.YtfbkefgoblcmpaaGreat
set_option linter.unusedSimpArgs false
set_option linter.unusedVariables false
namespace Go.Proofs.YtfbkefgoblcmpaaGreat
open Go.Ev Go.RowKit
open Tryz
def G12 : Mon F12 := { mul := mul12, one := one12, assoc := qJ, one_mul := fun a => by rw [r9, tZ], mul_one := tZ }
def pwT (a : F12) (n : Nat) : F12 := pw mul12 one12 a n
end Go.Proofs.YtfbkefgoblcmpaaGreat
set_option linter.unusedSimpArgs false
set_option linter.unusedVariables false
namespace Go.Proofs.YtfbkefgoblcmpaaGreat
open Go.Ev Go.RowKit
open Tryz
def A9 (r : Array Tmp × Code × Code) (a : F12) (e i : Nat) : LState := { n := 24, sl := [(0, .yd 16), (1, .p 11 0), (3, vi0 (((i : Nat) : Int) - 1))], hp := [(2, .ro [.n 1 e]), (3, .own (m12 a) 77), (4, .own (m12 one12) 77), (5, .own (List.replicate 72 (.c (.int .u64 0))) 77), (7, .own (m12 (pwT a (e / 2 ^ i))) 77), (11, .own [.sl 2 0 1 1] 118), (15, .dfd),
 (16, .lp .ready none ⟨23, .any, trOf [(3, .p 3 0), (7, .p 7 0)]⟩ r.1 r.2.1 r.2.2 15)] }
def GI (r : Array Tmp × Code × Code) (a : F12) (e : Nat) (z : Int) (v : F12) : LState := { n := 24, sl := [(0, .yd 16), (1, .p 11 0), (3, vi0 (z))], hp := [(2, .ro [.n 1 e]), (3, .own (m12 a) 77), (4, .own (m12 one12) 77), (5, .own (List.replicate 72 (.c (.int .u64 0))) 77), (7, .own (m12 (v)) 77), (11, .own [.sl 2 0 1 1] 118), (15, .dfd),
 (16, .lp .ready none ⟨23, .any, trOf [(3, .p 3 0), (7, .p 7 0)]⟩ r.1 r.2.1 r.2.2 15)] }
def LC (r : Array Tmp × Code × Code) (a : F12) (e : Nat) (v : F12) : LState := { n := 24, sl := [], hp := [(2, .ro [.n 1 e]), (3, .own (m12 a) 77), (4, .own (m12 one12) 77), (5, .own (List.replicate 72 (.c (.int .u64 0))) 77), (7, .own (m12 (v)) 77), (11, .own [.sl 2 0 1 1] 118), (15, .dfd),
 (16, .lp .ready none ⟨23, .any, trOf [(3, .p 3 0), (7, .p 7 0)]⟩ r.1 r.2.1 r.2.2 15)] }
theorem Wi (a : F12) (e i : Nat) (hi : i < 64) (hb : e / 2 ^ i % 2 = 1) : Sound prog 17 false (ql f92 0) (A9 (qd f85 0) a e (i + 1)).aa .normal (A9 (qd f85 0) a e i).aa := by
 have hs := qh (P := prog) (X := tJ _) (env := [Bz]) ⟨vM, tt0⟩ (n := 2) (os := oL [(31, wO 1), (36, rO 2 (i / 64)), (37, rO 3 0), (40, rO 4 (i % 64)), (42, wO 1)]) (fb := 17) (rd := false) (c := ql f92 0) (k := 30) (I := A9 (qd f85 0) a e (i + 1)) (sk := [0, 1, 3]) (hk := [2, 3, 4, 5, 7, 11, 15, 16]) (lk := [(16, [3, 7])]) (ex := .normal)
  (L := GI (qd f85 0) a e (IntKind.i64.wrap ((((i + 1 : Nat) : Int) - 1) - 1)) (mul12 (mul12 (pwT a (e / 2 ^ (i + 1))) (pwT a (e / 2 ^ (i + 1)))) a)) (by kernel_rfl) (ai (show decide ((e / 18446744073709551616 ^ (0 + i / 64 * 1) % 18446744073709551616 / 2 ^ (i % 64) % 18446744073709551616 &&& 1) % 18446744073709551616 = 1) = true from by rw [x6, hb]; rfl) (ai (show (((i + 1 : Nat) : Int) - 1).tmod 64 = ((i % 64 : Nat) : Int) /\ i % 64 < 64 from ⟨by rw [show (((i + 1 : Nat) : Int) - 1) = ((i : Nat) : Int) by omega]; exact yY i, Nat.mod_lt _ (by decide)⟩) (ai (show 0 + i / 64 * 1 < 1 from by omega) (ai (show IntKind.i64.wrap ((((i + 1 : Nat) : Int) - 1).tdiv 64) = ((i / 64 : Nat) : Int) /\ i / 64 < 1 from ⟨by rw [show (((i + 1 : Nat) : Int) - 1) = ((i : Nat) : Int) by omega]; exact yX i (by omega), by omega⟩) (ai (show decide (((((i + 1 : Nat) : Int)) - 1) >= 0) = true from decide_eq_true (by omega)) tt0)))))
 have e1 : IntKind.i64.wrap ((((i + 1 : Nat) : Int) - 1) - 1) = ((i : Nat) : Int) - 1 := by rw [qm]; omega
 have e2 : mul12 (mul12 (pwT a (e / 2 ^ (i + 1))) (pwT a (e / 2 ^ (i + 1)))) a = pwT a (e / 2 ^ i) := by
  rw [yl e i, hb]
  exact (congrArg (fun z => mul12 z a) (G12.pw_dbl a (e / 2 ^ (i + 1))).symm)
 rw [e1, e2] at hs
 exact hs
theorem Ww (a : F12) (e i : Nat) (hi : i < 64) (hb : e / 2 ^ i % 2 = 0) : Sound prog 17 false (ql f92 0) (A9 (qd f85 0) a e (i + 1)).aa .normal (A9 (qd f85 0) a e i).aa := by
 have hs := qh (P := prog) (X := tJ _) (env := [Bz]) ⟨vM, tt0⟩ (n := 2) (os := oL [(31, wO 1), (36, rO 2 (i / 64)), (37, rO 3 0), (40, rO 4 (i % 64)), (42, wO 2)]) (fb := 17) (rd := false) (c := ql f92 0) (k := 30) (I := A9 (qd f85 0) a e (i + 1)) (sk := [0, 1, 3]) (hk := [2, 3, 4, 5, 7, 11, 15, 16]) (lk := [(16, [3, 7])]) (ex := .normal)
  (L := GI (qd f85 0) a e (IntKind.i64.wrap ((((i + 1 : Nat) : Int) - 1) - 1)) (mul12 (pwT a (e / 2 ^ (i + 1))) (pwT a (e / 2 ^ (i + 1))))) (by kernel_rfl) (ai (show decide ((e / 18446744073709551616 ^ (0 + i / 64 * 1) % 18446744073709551616 / 2 ^ (i % 64) % 18446744073709551616 &&& 1) % 18446744073709551616 = 1) = false from by rw [x6, hb]; rfl) (ai (show (((i + 1 : Nat) : Int) - 1).tmod 64 = ((i % 64 : Nat) : Int) /\ i % 64 < 64 from ⟨by rw [show (((i + 1 : Nat) : Int) - 1) = ((i : Nat) : Int) by omega]; exact yY i, Nat.mod_lt _ (by decide)⟩) (ai (show 0 + i / 64 * 1 < 1 from by omega) (ai (show IntKind.i64.wrap ((((i + 1 : Nat) : Int) - 1).tdiv 64) = ((i / 64 : Nat) : Int) /\ i / 64 < 1 from ⟨by rw [show (((i + 1 : Nat) : Int) - 1) = ((i : Nat) : Int) by omega]; exact yX i (by omega), by omega⟩) (ai (show decide (((((i + 1 : Nat) : Int)) - 1) >= 0) = true from decide_eq_true (by omega)) tt0)))))
 have e1 : IntKind.i64.wrap ((((i + 1 : Nat) : Int) - 1) - 1) = ((i : Nat) : Int) - 1 := by rw [qm]; omega
 have e2 : mul12 (pwT a (e / 2 ^ (i + 1))) (pwT a (e / 2 ^ (i + 1))) = pwT a (e / 2 ^ i) := by
  rw [yl e i, hb]
  exact (G12.pw_dbl a (e / 2 ^ (i + 1))).symm
 rw [e1, e2] at hs
 exact hs
theorem Qe (a : F12) (e : Nat) : Sound prog 17 false (ql f92 0) (A9 (qd f85 0) a e 0).aa (.exit 0) (LC (qd f85 0) a e (pwT a e)).aa := by
 have hs := qh (P := prog) (X := tJ _) (env := []) trivial (n := 2) (os := oL [(31, wO 2)]) (fb := 17) (rd := false) (c := ql f92 0) (k := 30) (I := A9 (qd f85 0) a e 0) (sk := []) (hk := [2, 3, 4, 5, 7, 11, 15, 16]) (lk := [(16, [3, 7])]) (ex := .exit 0)
  (L := LC (qd f85 0) a e (pwT a (e / 2 ^ 0))) (by kernel_rfl) (ai (show decide ((((0 : Nat) : Int) - 1) >= 0) = false from by decide) tt0)
 rw [Nat.pow_zero, Nat.div_one] at hs
 exact hs
theorem OA (a : F12) (e : Nat) (y : { i : Nat // i <= 64 }) : Sound prog 17 false (.loop (ql f92 0)) (A9 (qd f85 0) a e y.val).aa (.exit 0) (LC (qd f85 0) a e (pwT a e)).aa := by
 refine sT (m := fun y : { i : Nat // i <= 64 } => y.val) (fun y => A9 (qd f85 0) a e y.val) (by simp) (fun y => ?_) y
 obtain ⟨i, hi⟩ := y
 cases i with
 | zero => exact .inr (Qe a e)
 | succ i =>
  refine .inl ⟨⟨i, by omega⟩, Nat.lt_succ_self i, ?_⟩
  rcases Nat.mod_two_eq_zero_or_one (e / 2 ^ i) with hb | hb
  ·exact Ww a e i (by omega) hb
  ·exact Wi a e i (by omega) hb
theorem Ve (a : F12) (e : Nat) (he : e < 18446744073709551616 ^ 1) : Gives prog 85 [.t (.ag (m12 a)), .t (.ag (m12 one12)), .rd [.n 1 e] 1 1] (.ag (m12 (pwT a e))) :=
 qb (P := prog) (X := tL) (env := [HR]) ⟨DS, tt0⟩ func85 2 (oL [(21, lpO { I := GI (qd f85 0) a e (IntKind.i64.wrap (((nbits 1 e : Nat) : Int) - 1)) one12, ex := .exit 0, E := LC (qd f85 0) a e (pwT a e), fr := 22, lk := [(16, [3, 7])] })]) (by kernel_rfl) ⟨_, rfl⟩ (ai (show some (GI (qd f85 0) a e (IntKind.i64.wrap (((nbits 1 e : Nat) : Int) - 1)) one12) = some (GI (qd f85 0) a e (IntKind.i64.wrap (((nbits 1 e : Nat) : Int) - 1)) one12) from rfl) (ai (show Sound prog 17 false (.loop (ql f92 0)) (GI (qd f85 0) a e (IntKind.i64.wrap (((nbits 1 e : Nat) : Int) - 1)) one12).aa (.exit 0) (LC (qd f85 0) a e (pwT a e)).aa from by
   have hn := Cd 1 e
   have e1 : IntKind.i64.wrap (((nbits 1 e : Nat) : Int) - 1) = ((nbits 1 e : Nat) : Int) - 1 := by rw [qm]; omega
   have hl := OA a e ⟨nbits 1 e, by omega⟩
   have e2 : A9 (qd f85 0) a e (nbits 1 e) = GI (qd f85 0) a e (((nbits 1 e : Nat) : Int) - 1) one12 := by
    have : pwT a (e / 2 ^ nbits 1 e) = one12 := by rw [DE he]; rfl
    simp only [A9, GI, this]
   rw [e1, ← e2]
   exact hl) (ai (show e < 18446744073709551616 ^ 1 from he) tt0)))
def Er : Entry := Ak 85 zb.x zb.x (XPar.rd 1 RM (fun _ => rfl)) (fun a y e => [(some (y = one12 /\ e < 18446744073709551616 ^ 1), .ag (m12 (pwT a e)))])
theorem CA : Er.OK prog := yC (fun args w => Go.Proofs.enters_of (P := prog) func85 (by kernel_rfl) rfl args w) (fun a y e => sZ (fun h => by obtain ⟨rfl, h⟩ := h; exact Ve a e h))
end Go.Proofs.YtfbkefgoblcmpaaGreat
set_option linter.unusedSimpArgs false
set_option linter.unusedVariables false
namespace Go.Proofs.YtfbkefgoblcmpaaGreat
open Go.Ev Go.RowKit
open Tryz
def EB (a : F12) (e : Nat) : Nat -> LState
 | 0 => { n := 10, sl := [(1, .u e), (2, .p 0 0), (4, .p 1 0)], hp := [(0, .own (m12 a) 77), (1, .own (List.replicate 72 (.c (.int .u64 0))) 77)] }
 | 1 => { n := 10, sl := [(1, .u e), (2, .p 0 0), (4, .p 1 0), (5, .ag (m12 a))], hp := [(0, .own (m12 a) 77), (1, .own (List.replicate 72 (.c (.int .u64 0))) 77)] }
 | 2 => { n := 10, sl := [(1, .u e), (2, .p 0 0), (4, .p 1 0), (6, .ag (m12 one12))], hp := [(0, .own (m12 a) 77), (1, .own (List.replicate 72 (.c (.int .u64 0))) 77)] }
 | 3 => { n := 10, sl := [(1, .u e), (2, .p 0 0), (4, .p 1 0), (5, .ag (m12 a)), (6, .ag (m12 one12))], hp := [(0, .own (m12 a) 77), (1, .own (List.replicate 72 (.c (.int .u64 0))) 77)] }
 | 4 => { n := 10, sl := [(1, .u e), (2, .p 0 0), (4, .p 1 0), (7, .u e)], hp := [(0, .own (m12 a) 77), (1, .own (List.replicate 72 (.c (.int .u64 0))) 77)] }
 | 5 => { n := 10, sl := [(1, .u e), (2, .p 0 0), (4, .p 1 0), (5, .ag (m12 a)), (7, .u e)], hp := [(0, .own (m12 a) 77), (1, .own (List.replicate 72 (.c (.int .u64 0))) 77)] }
 | 6 => { n := 10, sl := [(1, .u e), (2, .p 0 0), (4, .p 1 0), (6, .ag (m12 one12)), (7, .u e)], hp := [(0, .own (m12 a) 77), (1, .own (List.replicate 72 (.c (.int .u64 0))) 77)] }
 | 7 => { n := 10, sl := [(1, .u e), (2, .p 0 0), (4, .p 1 0), (5, .ag (m12 a)), (6, .ag (m12 one12)), (7, .u e)], hp := [(0, .own (m12 a) 77), (1, .own (List.replicate 72 (.c (.int .u64 0))) 77)] }
 | 12 => { n := 10, sl := [(1, .u e), (2, .p 0 0), (4, .p 1 0), (7, .u e), (8, .sl 1000 0 1 1)], hp := [(0, .own (m12 a) 77), (1, .own (List.replicate 72 (.c (.int .u64 0))) 77), (1000, .own [.n 1 e] 23)] }
 | 13 => { n := 10, sl := [(1, .u e), (2, .p 0 0), (4, .p 1 0), (5, .ag (m12 a)), (7, .u e), (8, .sl 1000 0 1 1)], hp := [(0, .own (m12 a) 77), (1, .own (List.replicate 72 (.c (.int .u64 0))) 77), (1000, .own [.n 1 e] 23)] }
 | 14 => { n := 10, sl := [(1, .u e), (2, .p 0 0), (4, .p 1 0), (6, .ag (m12 one12)), (7, .u e), (8, .sl 1000 0 1 1)], hp := [(0, .own (m12 a) 77), (1, .own (List.replicate 72 (.c (.int .u64 0))) 77), (1000, .own [.n 1 e] 23)] }
 | 15 => { n := 10, sl := [(1, .u e), (2, .p 0 0), (4, .p 1 0), (5, .ag (m12 a)), (6, .ag (m12 one12)), (7, .u e), (8, .sl 1000 0 1 1)], hp := [(0, .own (m12 a) 77), (1, .own (List.replicate 72 (.c (.int .u64 0))) 77), (1000, .own [.n 1 e] 23)] }
 | 31 => { n := 10, sl := [(1, .u e), (2, .p 0 0), (4, .p 1 0), (5, .ag (m12 a)), (6, .ag (m12 one12)), (7, .u e), (8, .sl 1000 0 1 1), (9, .ag (m12 (pwT a e)))], hp := [(0, .own (m12 a) 77), (1, .own (List.replicate 72 (.c (.int .u64 0))) 77), (1000, .own [.n 1 e] 23)] }
 | _ => { n := 10, sl := [(1, .u e), (2, .p 0 0), (4, .p 1 0)], hp := [(0, .own (m12 a) 77), (1, .own (m12 (pwT a e)) 77)] }
def XI : List (Nat × Nat) := [(6, 0), (5, 1), (5, 2), (5, 4), (4, 3), (4, 5), (4, 6), (4, 12), (3, 7), (3, 13), (3, 14), (2, 15), (1, 31), (0, 63)]
theorem HM (a : F12) (e : Nat) (he : e < 18446744073709551616 ^ 1) : Sound prog 0 false (Cp f61 0) (EB a e 0).aa .normal (EB a e 63).aa :=
 r8 (P := prog) (X := qE _) (env := [z4, Er]) ⟨sD, CA, tt0⟩ (tD (P := prog) (X := qE _) (env := [z4, Er]) (os := oL []) ⟨sD, CA, tt0⟩ 0) (os := oL []) (fb := 0) (k := 900) (S := EB a e ) (kk := fun m _ => match Nat.testBit m 3 with | true => 1100 | false => 1000) (tau := fun _ _ => []) (Ms := XI) (full := 63) (by kernel_rfl)
  (have hR : ∀ m, some (EB a e m) = some (EB a e m) := fun _ => rfl; (ai (ai (ai trivial (hR 1)) (ai (ai trivial (hR 2)) (ai (ai trivial (hR 4)) tt0))) (ai (ai (ai trivial (hR 3)) (ai (ai trivial (hR 5)) tt0)) (ai (ai (ai trivial (hR 3)) (ai (ai trivial (hR 6)) tt0)) (ai (ai (ai trivial (hR 5)) (ai (ai trivial (hR 6)) (ai (ai trivial (hR 12)) tt0))) (ai (ai (ai trivial (hR 7)) tt0) (ai (ai (ai trivial (hR 7)) (ai (ai trivial (hR 13)) tt0)) (ai (ai (ai trivial (hR 7)) (ai (ai trivial (hR 14)) tt0)) (ai (ai (ai trivial (hR 13)) (ai (ai trivial (hR 14)) tt0)) (ai (ai (ai trivial (hR 15)) tt0) (ai (ai (ai trivial (hR 15)) tt0) (ai (ai (ai trivial (hR 15)) tt0) (ai (ai (ai (ai (show one12 = one12 /\ e < 18446744073709551616 ^ 1 from ⟨rfl, he⟩) tt0) (hR 31)) tt0) (ai (ai (ai trivial (hR 63)) tt0) (ai trivial tt0)))))))))))))))
theorem Zt (a : F12) (e : Nat) (he : e < 18446744073709551616 ^ 1) : Gives prog 61 [.t (.ag (m12 a)), .t (.u e)] (.ag (m12 (pwT a e))) :=
 qb (P := prog) (X := qE _) (env := []) trivial func61 0 (oL [(2, lpO { kd := 5, I := EB a e 0, ex := .normal, E := EB a e 63, fr := 20 })]) (by kernel_rfl) ⟨_, rfl⟩ (ai (show some (EB a e 0) = some (EB a e 0) from rfl) (ai (HM a e he) tt0))
end Go.Proofs.YtfbkefgoblcmpaaGreat
set_option linter.unusedSimpArgs false
set_option linter.unusedVariables false
namespace Go.Proofs.YtfbkefgoblcmpaaGreat
open Go.Ev Go.RowKit
open Tryz
theorem NP (f c i f1 a b f2 p1 g x1 y1 z1 g2 h1 h a2 b2 m1 c2 m2 res : F12) (hC : ∀ q ∈ ([([.t (.ag (m12 f))], .ag (m12 c)), ([.t (.ag (m12 x1))], .ag (m12 y1)), ([.t (.ag (m12 g2))], .ag (m12 c2))] : List (List XV × AV)), Tells prog 58 q.1 q.2) (hI : ∀ q ∈ ([([.t (.ag (m12 f))], .ag (m12 i))] : List (List XV × AV)), Tells prog 59 q.1 q.2) (hT : ∀ q ∈ ([([.t (.ag (m12 c)), .t (.ag (m12 i))], .ag (m12 f1)), ([.t (.ag (m12 b)), .t (.ag (m12 f1))], .ag (m12 f2)), ([.t (.ag (m12 y1)), .t (.ag (m12 z1))], .ag (m12 g2)), ([.t (.ag (m12 h)), .t (.ag (m12 b2))], .ag (m12 m1)), ([.t (.ag (m12 m1)), .t (.ag (m12 c2))], .ag (m12 m2)), ([.t (.ag (m12 m2)), .t (.ag (m12 f2))], .ag (m12 res))] : List (List XV × AV)), Tells prog 29 q.1 q.2) (hF : ∀ q ∈ ([([.t (.ag (m12 f1))], .ag (m12 a)), ([.t (.ag (m12 a))], .ag (m12 b)), ([.t (.ag (m12 g))], .ag (m12 z1)), ([.t (.ag (m12 g2))], .ag (m12 a2)), ([.t (.ag (m12 a2))], .ag (m12 b2))] : List (List XV × AV)), Tells prog 60 q.1 q.2) (hP : ∀ q ∈ ([([.t (.ag (m12 f2)), .t (.v (.int .u64 15132376222941642753))], .ag (m12 p1)), ([.t (.ag (m12 p1)), .t (.v (.int .u64 5044125407647214251))], .ag (m12 g)), ([.t (.ag (m12 g)), .t (.v (.int .u64 15132376222941642752))], .ag (m12 x1)), ([.t (.ag (m12 g2)), .t (.v (.int .u64 15132376222941642752))], .ag (m12 h1)), ([.t (.ag (m12 h1)), .t (.v (.int .u64 15132376222941642752))], .ag (m12 h))] : List (List XV × AV)), Tells prog 61 q.1 q.2) : Gives prog 31 [.t (.ag (m12 f))] (.ag (m12 res)) :=
 qb (P := prog) (X := tL) (env := [eTo 58 [([.t (.ag (m12 f))], .ag (m12 c)), ([.t (.ag (m12 x1))], .ag (m12 y1)), ([.t (.ag (m12 g2))], .ag (m12 c2))], eTo 59 [([.t (.ag (m12 f))], .ag (m12 i))], eTo 29 [([.t (.ag (m12 c)), .t (.ag (m12 i))], .ag (m12 f1)), ([.t (.ag (m12 b)), .t (.ag (m12 f1))], .ag (m12 f2)), ([.t (.ag (m12 y1)), .t (.ag (m12 z1))], .ag (m12 g2)), ([.t (.ag (m12 h)), .t (.ag (m12 b2))], .ag (m12 m1)), ([.t (.ag (m12 m1)), .t (.ag (m12 c2))], .ag (m12 m2)), ([.t (.ag (m12 m2)), .t (.ag (m12 f2))], .ag (m12 res))], eTo 60 [([.t (.ag (m12 f1))], .ag (m12 a)), ([.t (.ag (m12 a))], .ag (m12 b)), ([.t (.ag (m12 g))], .ag (m12 z1)), ([.t (.ag (m12 g2))], .ag (m12 a2)), ([.t (.ag (m12 a2))], .ag (m12 b2))], eTo 61 [([.t (.ag (m12 f2)), .t (.v (.int .u64 15132376222941642753))], .ag (m12 p1)), ([.t (.ag (m12 p1)), .t (.v (.int .u64 5044125407647214251))], .ag (m12 g)), ([.t (.ag (m12 g)), .t (.v (.int .u64 15132376222941642752))], .ag (m12 x1)), ([.t (.ag (m12 g2)), .t (.v (.int .u64 15132376222941642752))], .ag (m12 h1)), ([.t (.ag (m12 h1)), .t (.v (.int .u64 15132376222941642752))], .ag (m12 h))]]) ⟨qf hC, qf hI, qf hT, qf hF, qf hP, tt0⟩ func31 0 (oL [(3, wO 0), (5, wO 0), (6, wO 0), (9, wO 0), (10, wO 1), (12, wO 1), (15, wO 0), (16, wO 1), (20, wO 2), (21, wO 1), (23, wO 2), (24, wO 2), (27, wO 3), (28, wO 4), (33, wO 3), (34, wO 4), (35, wO 3), (37, wO 2), (38, wO 4), (40, wO 5)]) (by kernel_rfl) ⟨_, rfl⟩ (ai (show ([.t (.ag (m12 m2)), .t (.ag (m12 f2))] : List XV) = [.t (.ag (m12 m2)), .t (.ag (m12 f2))] from rfl) (ai (show ([.t (.ag (m12 m1)), .t (.ag (m12 c2))] : List XV) = [.t (.ag (m12 m1)), .t (.ag (m12 c2))] from rfl) (ai (show ([.t (.ag (m12 g2))] : List XV) = [.t (.ag (m12 g2))] from rfl) (ai (show ([.t (.ag (m12 h)), .t (.ag (m12 b2))] : List XV) = [.t (.ag (m12 h)), .t (.ag (m12 b2))] from rfl) (ai (show ([.t (.ag (m12 a2))] : List XV) = [.t (.ag (m12 a2))] from rfl) (ai (show ([.t (.ag (m12 g2))] : List XV) = [.t (.ag (m12 g2))] from rfl) (ai (show ([.t (.ag (m12 h1)), .t (.v (.int .u64 15132376222941642752))] : List XV) = [.t (.ag (m12 h1)), .t (.v (.int .u64 15132376222941642752))] from rfl) (ai (show ([.t (.ag (m12 g2)), .t (.v (.int .u64 15132376222941642752))] : List XV) = [.t (.ag (m12 g2)), .t (.v (.int .u64 15132376222941642752))] from rfl) (ai (show ([.t (.ag (m12 y1)), .t (.ag (m12 z1))] : List XV) = [.t (.ag (m12 y1)), .t (.ag (m12 z1))] from rfl) (ai (show ([.t (.ag (m12 g))] : List XV) = [.t (.ag (m12 g))] from rfl) (ai (show ([.t (.ag (m12 x1))] : List XV) = [.t (.ag (m12 x1))] from rfl) (ai (show ([.t (.ag (m12 g)), .t (.v (.int .u64 15132376222941642752))] : List XV) = [.t (.ag (m12 g)), .t (.v (.int .u64 15132376222941642752))] from rfl) (ai (show ([.t (.ag (m12 p1)), .t (.v (.int .u64 5044125407647214251))] : List XV) = [.t (.ag (m12 p1)), .t (.v (.int .u64 5044125407647214251))] from rfl) (ai (show ([.t (.ag (m12 f2)), .t (.v (.int .u64 15132376222941642753))] : List XV) = [.t (.ag (m12 f2)), .t (.v (.int .u64 15132376222941642753))] from rfl) (ai (show ([.t (.ag (m12 b)), .t (.ag (m12 f1))] : List XV) = [.t (.ag (m12 b)), .t (.ag (m12 f1))] from rfl) (ai (show ([.t (.ag (m12 a))] : List XV) = [.t (.ag (m12 a))] from rfl) (ai (show ([.t (.ag (m12 f1))] : List XV) = [.t (.ag (m12 f1))] from rfl) (ai (show ([.t (.ag (m12 c)), .t (.ag (m12 i))] : List XV) = [.t (.ag (m12 c)), .t (.ag (m12 i))] from rfl) (ai (show ([.t (.ag (m12 f))] : List XV) = [.t (.ag (m12 f))] from rfl) (ai (show ([.t (.ag (m12 f))] : List XV) = [.t (.ag (m12 f))] from rfl) tt0))))))))))))))))))))
theorem Im : (15132376222941642752 : Nat) < 18446744073709551616 ^ 1 := by decide
theorem TT : (15132376222941642753 : Nat) < 18446744073709551616 ^ 1 := by decide
theorem UQ : (5044125407647214251 : Nat) < 18446744073709551616 ^ 1 := by decide
theorem Hl (a : F12) : Tells prog 58 [.t (.ag (m12 a))] (.ag (m12 (conj12 a))) := qT Cs (by kernel_rfl)
theorem Xn (a : F12) : Tells prog 59 [.t (.ag (m12 a))] (.ag (m12 (inv12 a))) := qT KT (by kernel_rfl)
theorem BJ (a : F12) : Tells prog 60 [.t (.ag (m12 a))] (.ag (m12 (frobT a))) := qT Kt (by kernel_rfl)
theorem DG (a b : F12) : Tells prog 29 [.t (.ag (m12 a)), .t (.ag (m12 b))] (.ag (m12 (mul12 a b))) := qT vM (by kernel_rfl)
theorem FI (a : F12) (n : Nat) (hn : n < 18446744073709551616 ^ 1) : Tells prog 61 [.t (.ag (m12 a)), .t (.v (.int .u64 (n : Int)))] (.ag (m12 (pwT a n))) := by
 obtain ⟨v, hv, hx⟩ := Zt a n hn
 refine ⟨v, hv, fun w vs hr => .inr ⟨Go.Proofs.enters_of (P := prog) func61 (by kernel_rfl) rfl _ _, hx w vs ?_⟩⟩
 match vs, hr with
 | [p, q], hr =>
  refine ⟨hr.1, ?_, tt0⟩
  have h2 := hr.2.1
  simp only [XRep, AV.val?, oi0] at h2 ⊢
  rw [← h2]
  unfold u64
  have : n % 18446744073709551616 = n := Nat.mod_eq_of_lt (by omega)
  rw [this]
def fi1 (f : F12) : F12 := mul12 (conj12 f) (inv12 f)
def fi2 (f1 : F12) : F12 := mul12 (frobT (frobT f1)) f1
def fiG (f2 : F12) (m n : Nat) : F12 := pwT (pwT f2 m) n
def fiH (g : F12) (n : Nat) : F12 := mul12 (conj12 (pwT g n)) (frobT g)
def fiE (f2 g2 : F12) (n : Nat) : F12 := mul12 (mul12 (mul12 (pwT (pwT g2 n) n) (frobT (frobT g2))) (conj12 g2)) f2
theorem Oo (f : F12) (f1 f2 g g2 : F12) (h1 : f1 = fi1 f) (h2 : f2 = fi2 f1) (hg : g = fiG f2 15132376222941642753 5044125407647214251) (h3 : g2 = fiH g 15132376222941642752) : Gives prog 31 [.t (.ag (m12 f))] (.ag (m12 (fiE f2 g2 15132376222941642752))) := by
 have hP1 := FI f2 15132376222941642753 TT
 have hP2 := FI (pwT f2 15132376222941642753) 5044125407647214251 UQ
 have hP3 := FI g 15132376222941642752 Im
 have hP4 := FI g2 15132376222941642752 Im
 have hP5 := FI (pwT g2 15132376222941642752) 15132376222941642752 Im
 have eg : pwT (pwT f2 15132376222941642753) 5044125407647214251 = g := hg.symm
 rw [eg] at hP2
 have hT1 := DG (conj12 f) (inv12 f)
 rw [show mul12 (conj12 f) (inv12 f) = f1 from h1.symm] at hT1
 have hT2 := DG (frobT (frobT f1)) f1
 rw [show mul12 (frobT (frobT f1)) f1 = f2 from h2.symm] at hT2
 have hT3 := DG (conj12 (pwT g 15132376222941642752)) (frobT g)
 rw [show mul12 (conj12 (pwT g 15132376222941642752)) (frobT g) = g2 from h3.symm] at hT3
 exact NP f _ _ _ _ _ _ _ _ _ _ _ _ _ _ _ _ _ _ _ _
  (qe (Hl f) (qe (Hl _) (qe (Hl g2) qw))) (qe (Xn f) qw)
  (qe hT1 (qe hT2 (qe hT3 (qe (DG _ _) (qe (DG _ _) (qe (DG _ f2) qw))))))
  (qe (BJ f1) (qe (BJ _) (qe (BJ g) (qe (BJ g2) (qe (BJ _) qw)))))
  (qe hP1 (qe hP2 (qe hP3 (qe hP4 (qe hP5 qw)))))
def A6 (f : F12) : F12 := fiE (fi2 (fi1 f)) (fiH (fiG (fi2 (fi1 f)) 15132376222941642753 5044125407647214251) 15132376222941642752) 15132376222941642752
theorem xO (f : F12) : Gives prog 31 [.t (.ag (m12 f))] (.ag (m12 (A6 f))) := Oo f _ _ _ _ rfl rfl rfl rfl
theorem aan : xT + 1 = 15132376222941642753 := rfl
theorem aaH : (xT + 1) / 3 = 5044125407647214251 := by decide
theorem Le : xT = 15132376222941642752 := rfl
theorem SS (f : K12) (m n k : Nat) (hm : m = xT + 1) (hn : n = (xT + 1) / 3) (hk : k = xT) : fiE (fi2 (fi1 f)) (fiH (fiG (fi2 (fi1 f)) m n) k) k = finK f := by
 unfold finK fnh fng
 rw [← hn, ← hm, ← hk]
 rfl
theorem Vq (f : K12) : A6 f = finK f := SS f _ _ _ aan.symm aaH.symm Le.symm
end Go.Proofs.YtfbkefgoblcmpaaGreat
set_option linter.unusedSimpArgs false
set_option linter.unusedVariables false
namespace Go.Proofs.YtfbkefgoblcmpaaGreat
open Go.Ev Go.RowKit
open Tryz
theorem xR (x y : Fin Pp) (b : Bool) : sml1 (x.val, y.val, b) := ⟨Nat.lt_trans x.isLt (by decide), Nat.lt_trans y.isLt (by decide)⟩
theorem W7 (x y : Fin Pp) (b : Bool) (u v : F2) (c : Bool) (h1 : may1 (x.val, y.val, b)) (h2 : AZ (x.val, y.val, b)) (h3 : may2 ((u.1.val, u.2.val), (v.1.val, v.2.val), c)) (h4 : C6 ((u.1.val, u.2.val), (v.1.val, v.2.val), c)) : Tells prog 27 [.t (.ag [.q x, .q y, .c (.bool b)]), .t (.ag [.q u.1, .q u.2, .q v.1, .q v.2, .c (.bool c)])] (vi0 0) :=
 qi (fun vs w => Go.Proofs.enters_of (P := prog) func27 (by kernel_rfl) rfl vs w) (qb (P := prog) (X := qE _) (env := [AB, CV, R7, RL]) ⟨uo, v8, MO, Nk, tt0⟩ func27 0 (oL []) (by kernel_rfl) ⟨_, rfl⟩ (ai (show sml2 ((u.1.val, u.2.val), (v.1.val, v.2.val), c) /\ may2 ((u.1.val, u.2.val), (v.1.val, v.2.val), c) /\ C6 ((u.1.val, u.2.val), (v.1.val, v.2.val), c) from ⟨BC u v c, h3, h4⟩) (ai (show sml1 (x.val, y.val, b) /\ may1 (x.val, y.val, b) /\ AZ (x.val, y.val, b) from ⟨xR x y b, h1, h2⟩) (ai (show sml2 ((u.1.val, u.2.val), (v.1.val, v.2.val), c) /\ may2 ((u.1.val, u.2.val), (v.1.val, v.2.val), c) from ⟨BC u v c, h3⟩) (ai (show sml1 (x.val, y.val, b) /\ may1 (x.val, y.val, b) from ⟨xR x y b, h1⟩) tt0)))))
def KR (x y : Fin Pp) (b : Bool) (u v : F2) (c : Bool) (e : Nat) : F12 := if b = true ∨ c = true then one12 else Xk x y u v e
theorem Xj (x y : Fin Pp) (u v : F2) (c : Bool) : Tells prog 30 [.t (.ag [.q x, .q y, .c (.bool true)]), .t (.ag [.q u.1, .q u.2, .q v.1, .q v.2, .c (.bool c)])] (.ag (m12 one12)) :=
 qi (fun vs w => Go.Proofs.enters_of (P := prog) func30 (by kernel_rfl) rfl vs w) (qb (P := prog) (X := qE _) (env := [z4]) ⟨sD, tt0⟩ func30 0 (oL []) (by kernel_rfl) ⟨_, rfl⟩ tt0)
theorem Xz (x y : Fin Pp) (u v : F2) : Tells prog 30 [.t (.ag [.q x, .q y, .c (.bool false)]), .t (.ag [.q u.1, .q u.2, .q v.1, .q v.2, .c (.bool true)])] (.ag (m12 one12)) :=
 qi (fun vs w => Go.Proofs.enters_of (P := prog) func30 (by kernel_rfl) rfl vs w) (qb (P := prog) (X := qE _) (env := [z4]) ⟨sD, tt0⟩ func30 0 (oL []) (by kernel_rfl) ⟨_, rfl⟩ tt0)
theorem YR (x y : Fin Pp) (u v : F2) (L : F12) (h : Tells prog 57 [.t (.ag [.q x, .q y, .c (.bool false)]), .t (.ag [.q u.1, .q u.2, .q v.1, .q v.2, .c (.bool false)])] (.ag (m12 L))) : Tells prog 30 [.t (.ag [.q x, .q y, .c (.bool false)]), .t (.ag [.q u.1, .q u.2, .q v.1, .q v.2, .c (.bool false)])] (.ag (m12 L)) :=
 qi (fun vs w => Go.Proofs.enters_of (P := prog) func30 (by kernel_rfl) rfl vs w) (qb (P := prog) (X := qE _) (env := [eTo 57 [([.t (.ag [.q x, .q y, .c (.bool false)]), .t (.ag [.q u.1, .q u.2, .q v.1, .q v.2, .c (.bool false)])], .ag (m12 L))]]) ⟨qf (qe h qw), tt0⟩ func30 0 (oL []) (by kernel_rfl) ⟨_, rfl⟩ (ai (show ([.t (.ag [.q x, .q y, .c (.bool false)]), .t (.ag [.q u.1, .q u.2, .q v.1, .q v.2, .c (.bool false)])] : List XV) = [.t (.ag [.q x, .q y, .c (.bool false)]), .t (.ag [.q u.1, .q u.2, .q v.1, .q v.2, .c (.bool false)])] from rfl) tt0))
theorem X6 (x y : Fin Pp) (b : Bool) (u v : F2) (c : Bool) (e : Nat) (he : e = 15132376222941642752) : Tells prog 30 [.t (.ag [.q x, .q y, .c (.bool b)]), .t (.ag [.q u.1, .q u.2, .q v.1, .q v.2, .c (.bool c)])] (.ag (m12 (KR x y b u v c e))) := by
 unfold KR
 cases b with
 | true => rw [if_pos (.inl rfl)]; exact Xj x y u v c
 | false =>
  cases c with
  | true => rw [if_pos (.inr rfl)]; exact Xz x y u v
  | false =>
   rw [if_neg (by simp)]
   exact YR x y u v _ (qi (fun vs w => Go.Proofs.enters_of (P := prog) func57 (by kernel_rfl) rfl vs w) (LL x y u v e he))
end Go.Proofs.YtfbkefgoblcmpaaGreat
