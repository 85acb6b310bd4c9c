/- fr.Batch; chirographlaw03.FrBatch. -/
import Derived.Test.YtoahfmgdlpgjoaaFb2
set_option linter.unusedSimpArgs false
set_option linter.unusedVariables false
namespace Go.Proofs.Ytoahfmgdlpgjoaa
open Go.Ev Go.RowKit
theorem fbatch_run (C X Y Z : List Value) (n : Nat) (u : Fin Rr) (hu : u = ofR (1 % 18446744073709551616))
    (h1 : GivesN Try.prog 53 [.rz [.l C] n, .t (.clo 48 [] [])] (fun k => .sl k 0 n n) (.own [.l X] 65))
    (h2 : GivesN Try.prog 52 [.rd [.l X] n n, .t (.ag [.s (ofR (1 % 18446744073709551616))])] (fun k => .sl k 0 n n) (.own [.l Y] 65))
    (h3 : GivesN Try.prog 51 [.rd [.l Y] n n, .t (.clo 46 [] [])] (fun k => .sl k 0 n n) (.own [.l Z] 34)) : GivesN Try.prog 27 [.rz [.l C] n] (fun k => .sl k 0 n n) (.own [.l Z] 34) :=
  fnN_gives (P := Try.prog) (X := rulesW _) (env := [eSmS]) ⟨eSmS_ok, trivial⟩ Try.func27 (fun vs w => Go.Proofs.enters_of (P := Try.prog) Try.func27 (by kernel_rfl) rfl vs w) 0 (oL [(3, { ch := 0, hi := fun _ => 0, ex := 4, av := fun k => .sl k 0 n n, lp := some { kd := 9, I := { n := 0, sl := [] }, ex := .normal, E := { n := 0, sl := [], hp := [(0, .own [.l X] 65)] }, fr := 0 } }), (5, { ch := 0, hi := fun _ => 0, ex := 4, av := fun k => .sl k 0 n n, lp := some { kd := 9, I := { n := 0, sl := [] }, ex := .normal, E := { n := 0, sl := [], hp := [(0, .own [.l Y] 65)] }, fr := 0 } }), (6, { ch := 0, hi := fun _ => 0, ex := 4, av := fun k => .sl k 0 n n, lp := some { kd := 9, I := { n := 0, sl := [] }, ex := .normal, E := { n := 0, sl := [], hp := [(0, .own [.l Z] 34)] }, fr := 0 } })]) (r0 := .sl 6 0 n n) 6 (by kernel_rfl) rfl
    (And.intro (h3)
    (And.intro (h2)
    (And.intro (h1) trivial))) (fun k => .sl k 0 n n) mv_sl
def ivN (ns : List Nat) (i : Nat) : Fin Rr := (pwS (ofR (ns.getD i 0)) 52435875175126190479447740508185965837690552500527637822603658699938581184511)
theorem num_row (ns : List Nat) (i : Nat) (hi : i < ns.length) (hs : ∀ x, x ∈ ns → x < 115792089237316195423570985008687907853269984665640564039457584007913129639936) : ns.getD i 0 < 115792089237316195423570985008687907853269984665640564039457584007913129639936 ∧ ((numC 4 ns).drop (i * 4)).take 4 = flat [.n 4 (ns.getD i 0)] := by
  obtain ⟨x, hx⟩ := pl_of hi
  have e : ns.getD i 0 = x := by rw [List.getD_eq_getElem?_getD, hx]; rfl
  rw [e]
  refine ⟨hs x (pl_mem hx), ?_⟩
  have := (nu_at ns i x hx).2
  rwa [flat_l] at this
theorem fbatch_gives (ns : List Nat) (hn : ns.length ≤ 1000000) (hs : ∀ x, x ∈ ns → x < 115792089237316195423570985008687907853269984665640564039457584007913129639936) : GivesN Try.prog 27 [.rz [.l (numC 4 ns)] ns.length] (fun k => .sl k 0 ns.length ns.length) (.own [.l (tab eC ns.length (ivN ns))] 34) :=
  fbatch_run _ (tab sC ns.length (fun i => ofR (ns.getD i 0))) (tab sC ns.length (ivN ns)) _ ns.length _ rfl
    (each1 _ ns.length hn (fun i => ofR (ns.getD i 0)) (fun i hi => ⟨_, (num_row ns i hi hs).1, (num_row ns i hi hs).2, rfl⟩))
    (batch_gives _ ns.length hn _ (by decide) (fun i => ofR (ns.getD i 0)) (fun i hi => tab_at sC sC_len ns.length _ i hi))
    (each2 _ ns.length hn (ivN ns) (fun i hi => tab_at sC sC_len ns.length _ i hi))
def flAI (C D : List Value) (n : Nat) (z : Int) : LState := { n := 37, sl := [(3, .sl 6 0 n n), (22, .sz 0 n), (23, .v (.int .i64 ((n : Nat) : Int))), (24, .v (.int .i64 z))], hp := [(0, .rz [.l C]), (6, .own [.l D] 34)] }
def flAE : LState := { n := 37, sl := [], hp := [] }
theorem flA_round (C D : List Value) (n : Nat) (hn : n ≤ 1000000) (i : Nat) (hi : i < n) (x : Nat) (y : Fin Rr) (hx : x < 115792089237316195423570985008687907853269984665640564039457584007913129639936) (hl : (C.drop (i * 4)).take 4 = flat [.n 4 x]) (hm : (D.drop (i * 4)).take 4 = flat [.e y]) (hy : y = (pwS (ofR x) 52435875175126190479447740508185965837690552500527637822603658699938581184511)) : Sound Try.prog 0 false (loopB Try.f7 0) (flAI C D n (i : Int)).aa .normal (flAI C D n ((i + 1 : Nat) : Int)).aa := by
  have hh := roundK_sound (P := Try.prog) (X := rulesW _) (env := [eFInvS]) ⟨eFInvS_ok, trivial⟩ (n := 0) (os := oL [(20, wT), (22, rO 14 i), (23, { ch := 0, hi := fun _ => 0, ru := 8, cs := fun _ => [.n 4 x] }), (29, rO 2 i), (30, { ch := 0, hi := fun _ => 0, ru := 8, cs := fun _ => [.e y] }), (33, wO 0)]) (fb := 0) (rd := false) (c := (loopB Try.f7 0)) (k := 20) (I := flAI C D n (i : Int)) (sk := [3, 22, 23, 24]) (hk := [0, 6]) (lk := []) (ex := .normal)
    (L := flAI C D n (IntKind.i64.wrap ((i : Int) + 1))) (by kernel_rfl)
    (And.intro (show flat [Ch.e y] = flat [Ch.e (pwS (ofR x) 52435875175126190479447740508185965837690552500527637822603658699938581184511)] from by rw [hy])
    (And.intro (show smtS (.inr x) from hx)
    (And.intro (ld_cond (p := [.e y]) hm rfl)
    (And.intro (show (i : Int) = ((i : Nat) : Int) ∧ i < n from ⟨rfl, hi⟩)
    (And.intro (ld_cond' (p := [.n 4 x]) hl rfl)
    (And.intro (show (i : Int) = ((i : Nat) : Int) ∧ i < n from ⟨rfl, hi⟩)
    (And.intro (show decide ((i : Int) < ((n : Nat) : Int)) = true from decide_eq_true (by omega)) trivial)))))))
  rw [wrap_i64, show (if ((i : Int) + 1) % 18446744073709551616 < 9223372036854775808 then ((i : Int) + 1) % 18446744073709551616 else ((i : Int) + 1) % 18446744073709551616 - 18446744073709551616) = ((i + 1 : Nat) : Int) by omega] at hh
  exact hh
theorem flA_end (C D : List Value) (n : Nat) : Sound Try.prog 0 false (loopB Try.f7 0) (flAI C D n ((n : Nat) : Int)).aa (.exit 0) flAE.aa :=
  roundK_sound (P := Try.prog) (X := rulesW _) (env := []) trivial (n := 0) (os := oL [(20, wF)]) (fb := 0) (rd := false) (c := (loopB Try.f7 0)) (k := 20) (I := flAI C D n ((n : Nat) : Int)) (sk := []) (hk := []) (lk := []) (ex := .exit 0)
    (L := flAE) (by kernel_rfl) (And.intro (show decide (((n : Nat) : Int) < ((n : Nat) : Int)) = false from decide_eq_false (by omega)) trivial)
theorem flA_all (C : List Value) (n : Nat) (hn : n ≤ 1000000) (ns : List Nat) (hC : ∀ i, i < n → ns.getD i 0 < 115792089237316195423570985008687907853269984665640564039457584007913129639936 ∧ (C.drop (i * 4)).take 4 = flat [.n 4 (ns.getD i 0)]) : Sound Try.prog 0 false (.loop (loopB Try.f7 0)) (flAI C (tab eC n (ivN ns)) n 0).aa (.exit 0) flAE.aa := by
  refine loop_ok (m := fun y : { i : Nat // i ≤ n } => n - y.val) (fun y => flAI C (tab eC n (ivN ns)) n (y.val : Int)) (by simp) (fun y => ?_) ⟨0, by omega⟩
  obtain ⟨i, hi⟩ := y
  by_cases e : i < n
  · exact .inl ⟨⟨i + 1, e⟩, by show n - (i + 1) < n - i; omega, flA_round C _ n hn i e (ns.getD i 0) (ivN ns i) (hC i e).1 (hC i e).2 (tab_at eC eC_len n (ivN ns) i e) rfl⟩
  · have e : i = n := by omega
    subst e
    exact .inr (flA_end C _ i)
def flBI (C D : List Value) (n : Nat) (z : Int) : LState := { n := 37, sl := [(3, .sl 9 0 n n), (22, .sz 6 n), (23, .v (.int .i64 ((n : Nat) : Int))), (24, .v (.int .i64 z))], hp := [(6, .rz [.l C]), (9, .own [.l D] 34)] }
def flBE : LState := { n := 37, sl := [], hp := [] }
theorem flB_round (C D : List Value) (n : Nat) (hn : n ≤ 1000000) (i : Nat) (hi : i < n) (x : Nat) (y : Fin Rr) (hx : x < 115792089237316195423570985008687907853269984665640564039457584007913129639936) (hl : (C.drop (i * 4)).take 4 = flat [.n 4 x]) (hm : (D.drop (i * 4)).take 4 = flat [.e y]) (hy : y = (pwS (ofR x) 52435875175126190479447740508185965837690552500527637822603658699938581184511)) : Sound Try.prog 0 false (loopB Try.f7 0) (flBI C D n (i : Int)).aa .normal (flBI C D n ((i + 1 : Nat) : Int)).aa := by
  have hh := roundK_sound (P := Try.prog) (X := rulesW _) (env := [eFInvS]) ⟨eFInvS_ok, trivial⟩ (n := 0) (os := oL [(23, wT), (25, rO 14 i), (26, { ch := 0, hi := fun _ => 0, ru := 8, cs := fun _ => [.n 4 x] }), (32, rO 2 i), (33, { ch := 0, hi := fun _ => 0, ru := 8, cs := fun _ => [.e y] }), (36, wO 0)]) (fb := 0) (rd := false) (c := (loopB Try.f7 0)) (k := 23) (I := flBI C D n (i : Int)) (sk := [3, 22, 23, 24]) (hk := [6, 9]) (lk := []) (ex := .normal)
    (L := flBI C D n (IntKind.i64.wrap ((i : Int) + 1))) (by kernel_rfl)
    (And.intro (show flat [Ch.e y] = flat [Ch.e (pwS (ofR x) 52435875175126190479447740508185965837690552500527637822603658699938581184511)] from by rw [hy])
    (And.intro (show smtS (.inr x) from hx)
    (And.intro (ld_cond (p := [.e y]) hm rfl)
    (And.intro (show (i : Int) = ((i : Nat) : Int) ∧ i < n from ⟨rfl, hi⟩)
    (And.intro (ld_cond' (p := [.n 4 x]) hl rfl)
    (And.intro (show (i : Int) = ((i : Nat) : Int) ∧ i < n from ⟨rfl, hi⟩)
    (And.intro (show decide ((i : Int) < ((n : Nat) : Int)) = true from decide_eq_true (by omega)) trivial)))))))
  rw [wrap_i64, show (if ((i : Int) + 1) % 18446744073709551616 < 9223372036854775808 then ((i : Int) + 1) % 18446744073709551616 else ((i : Int) + 1) % 18446744073709551616 - 18446744073709551616) = ((i + 1 : Nat) : Int) by omega] at hh
  exact hh
theorem flB_end (C D : List Value) (n : Nat) : Sound Try.prog 0 false (loopB Try.f7 0) (flBI C D n ((n : Nat) : Int)).aa (.exit 0) flBE.aa :=
  roundK_sound (P := Try.prog) (X := rulesW _) (env := []) trivial (n := 0) (os := oL [(23, wF)]) (fb := 0) (rd := false) (c := (loopB Try.f7 0)) (k := 23) (I := flBI C D n ((n : Nat) : Int)) (sk := []) (hk := []) (lk := []) (ex := .exit 0)
    (L := flBE) (by kernel_rfl) (And.intro (show decide (((n : Nat) : Int) < ((n : Nat) : Int)) = false from decide_eq_false (by omega)) trivial)
theorem flB_all (C : List Value) (n : Nat) (hn : n ≤ 1000000) (ns : List Nat) (hC : ∀ i, i < n → ns.getD i 0 < 115792089237316195423570985008687907853269984665640564039457584007913129639936 ∧ (C.drop (i * 4)).take 4 = flat [.n 4 (ns.getD i 0)]) : Sound Try.prog 0 false (.loop (loopB Try.f7 0)) (flBI C (tab eC n (ivN ns)) n 0).aa (.exit 0) flBE.aa := by
  refine loop_ok (m := fun y : { i : Nat // i ≤ n } => n - y.val) (fun y => flBI C (tab eC n (ivN ns)) n (y.val : Int)) (by simp) (fun y => ?_) ⟨0, by omega⟩
  obtain ⟨i, hi⟩ := y
  by_cases e : i < n
  · exact .inl ⟨⟨i + 1, e⟩, by show n - (i + 1) < n - i; omega, flB_round C _ n hn i e (ns.getD i 0) (ivN ns i) (hC i e).1 (hC i e).2 (tab_at eC eC_len n (ivN ns) i e) rfl⟩
  · have e : i = n := by omega
    subst e
    exact .inr (flB_end C _ i)
theorem lawA (C D : List Value) (n : Nat) (hn : n ≤ 30) (hg : GivesN Try.prog 27 [.rz [.l C] n] (fun k => .sl k 0 n n) (.own [.l D] 34)) (hl : Sound Try.prog 0 false (.loop (loopB Try.f7 0)) (flAI C D n 0).aa (.exit 0) flAE.aa) : Gives Try.prog 7 [.rz [.l C] n] (.v (.bool true)) :=
  fn_gives_at (P := Try.prog) (X := rulesW _) (env := [eAlS]) ⟨eAlS_ok, trivial⟩ Try.func7 0 (oL [(4, wF), (6, { ch := 0, hi := fun _ => 0, ex := 4, av := fun k => .sl k 0 n n, lp := some { kd := 9, I := { n := 0, sl := [] }, ex := .normal, E := { n := 0, sl := [], hp := [(0, .own [.l D] 34)] }, fr := 0 } }), (12, wF), (20, lpO { I := flAI C D n 0, ex := .exit 0, E := flAE, fr := 21 })]) (by kernel_rfl) ⟨_, rfl⟩
    (And.intro (show some (flAI C D n 0) = some (flAI C D n 0) from rfl)
    (And.intro (hl)
    (And.intro (show (((n : Nat) : Int) != ((n : Nat) : Int)) = false from by simp)
    (And.intro (hg)
    (And.intro (show decide (((n : Nat) : Int) > 30) = false from decide_eq_false (by omega)) trivial)))))
theorem lawB (C0 C D : List Value) (n0 n : Nat) (hn : 30 < n0) (hc : (30 : Int) = ((n : Nat) : Int) ∧ n ≤ n0 ∧ flat [.l C] = (flat [.l C0]).take (n * 4)) (hg : GivesN Try.prog 27 [.rz [.l C] n] (fun k => .sl k 0 n n) (.own [.l D] 34)) (hl : Sound Try.prog 0 false (.loop (loopB Try.f7 0)) (flBI C D n 0).aa (.exit 0) flBE.aa) : Gives Try.prog 7 [.rz [.l C0] n0] (.v (.bool true)) :=
  fn_gives_at (P := Try.prog) (X := rulesW _) (env := [eAlS]) ⟨eAlS_ok, trivial⟩ Try.func7 0 (oL [(4, wT), (6, { ch := 0, hi := fun _ => n, ex := 6, cs := fun _ => [.l C] }), (9, { ch := 0, hi := fun _ => 0, ex := 4, av := fun k => .sl k 0 n n, lp := some { kd := 9, I := { n := 0, sl := [] }, ex := .normal, E := { n := 0, sl := [], hp := [(0, .own [.l D] 34)] }, fr := 0 } }), (15, wF), (23, lpO { I := flBI C D n 0, ex := .exit 0, E := flBE, fr := 24 })]) (by kernel_rfl) ⟨_, rfl⟩
    (And.intro (show some (flBI C D n 0) = some (flBI C D n 0) from rfl)
    (And.intro (hl)
    (And.intro (show (((n : Nat) : Int) != ((n : Nat) : Int)) = false from by simp)
    (And.intro (hg)
    (And.intro (hc)
    (And.intro (show decide (((n0 : Nat) : Int) > 30) = true from decide_eq_true (by omega)) trivial))))))
theorem cut30 (g0 ns : List Nat) (h : ns = g0.take 30) (hb : 30 < g0.length) : (30 : Int) = ((ns.length : Nat) : Int) ∧ ns.length ≤ g0.length ∧ flat [.l (numC 4 ns)] = (flat [.l (numC 4 g0)]).take (ns.length * 4) := by
  have hl : ns.length = 30 := by subst h; rw [List.length_take]; omega
  refine ⟨by rw [hl]; rfl, by omega, ?_⟩
  rw [flat_l, flat_l]
  have e2 : numC 4 g0 = numC 4 ns ++ numC 4 (g0.drop 30) := by
    conv => lhs; rw [← List.take_append_drop 30 g0, ← h]
    simp [numC]
  rw [e2, ← numC_length, List.take_left]
theorem frBatch_gives (ns : List Nat) (hs : ∀ x, x ∈ ns → x < 115792089237316195423570985008687907853269984665640564039457584007913129639936) : Gives Try.prog 7 [.rz [.l (numC 4 ns)] ns.length] (.v (.bool true)) := by
  by_cases h : ns.length ≤ 30
  · exact lawA _ _ ns.length h (fbatch_gives ns (by omega) hs) (flA_all _ ns.length (by omega) ns (fun i hi => num_row ns i hi hs))
  · have hs' : ∀ x, x ∈ ns.take 30 → x < 115792089237316195423570985008687907853269984665640564039457584007913129639936 := fun x hx => hs x (List.mem_of_mem_take hx)
    have hl : (ns.take 30).length = 30 := by rw [List.length_take]; omega
    exact lawB _ (numC 4 (ns.take 30)) _ ns.length (ns.take 30).length (by omega) (cut30 ns _ rfl (by omega)) (fbatch_gives (ns.take 30) (by omega) hs') (flB_all _ (ns.take 30).length (by omega) (ns.take 30) (fun i hi => num_row (ns.take 30) i hi hs'))
end Go.Proofs.Ytoahfmgdlpgjoaa
