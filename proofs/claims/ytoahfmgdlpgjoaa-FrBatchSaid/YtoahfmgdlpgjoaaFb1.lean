/- Rows of elements; fr.each. -/
import Derived.Test.YtoahfmgdlpgjoaaFb0
set_option linter.unusedSimpArgs false
set_option linter.unusedVariables false
namespace Go.Proofs.Ytoahfmgdlpgjoaa
open Go.Ev Go.RowKit

def sC (x : Fin Rr) : List Value := flat [.s x]
def eC (x : Fin Rr) : List Value := flat [.e x]
theorem sC_len (x : Fin Rr) : (sC x).length = 4 := by simp [sC, flat, Ch.cells, limbs_length]
theorem eC_len (x : Fin Rr) : (eC x).length = 4 := by simp [eC, flat, Ch.cells, limbs_length]
/-- Rows: what f says at the first n places. -/
def tab (g : Fin Rr → List Value) (n : Nat) (f : Nat → Fin Rr) : List Value := ((List.range n).map f).flatMap g
theorem tab_len (g : Fin Rr → List Value) (hg : ∀ x, (g x).length = 4) (n : Nat) (f : Nat → Fin Rr) : (tab g n f).length = n * 4 := by
  unfold tab
  induction n with
  | zero => rfl
  | succ n ih => rw [List.range_succ, List.map_append, List.flatMap_append, List.length_append, ih]; simp [hg]; omega
theorem tab_congr (g : Fin Rr → List Value) (n : Nat) (f f' : Nat → Fin Rr) (h : ∀ j, j < n → f j = f' j) : tab g n f = tab g n f' := by
  unfold tab
  rw [List.map_congr_left (fun j hj => h j (List.mem_range.1 hj))]
theorem tab_split (g : Fin Rr → List Value) (hg : ∀ x, (g x).length = 4) (n : Nat) (f : Nat → Fin Rr) (i : Nat) (hi : i < n) : ∃ a b, tab g n f = a ++ g (f i) ++ b ∧ a.length = i * 4 ∧ a = tab g i f ∧ b = ((List.range' (i + 1) (n - i - 1)).map f).flatMap g := by
  refine ⟨tab g i f, ((List.range' (i + 1) (n - i - 1)).map f).flatMap g, ?_, tab_len g hg i f, rfl, rfl⟩
  unfold tab
  have e : List.range n = List.range i ++ ([i] ++ List.range' (i + 1) (n - i - 1)) := by
    rw [List.range_eq_range', List.range_eq_range']
    have h1 : List.range' 0 n = List.range' 0 i ++ List.range' i (n - i) := by
      have := List.range'_append_1 (s := 0) (m := i) (n := n - i)
      rw [Nat.zero_add] at this
      rw [this]; congr 1; omega
    have h2 : List.range' i (n - i) = [i] ++ List.range' (i + 1) (n - i - 1) := by
      rw [show n - i = (n - i - 1) + 1 by omega, List.range'_succ]
      simp
    rw [h1, h2]
  rw [e]
  simp
/-- Row i. -/
theorem tab_at (g : Fin Rr → List Value) (hg : ∀ x, (g x).length = 4) (n : Nat) (f : Nat → Fin Rr) (i : Nat) (hi : i < n) : ((tab g n f).drop (i * 4)).take 4 = g (f i) := by
  obtain ⟨a, b, e, h, _, _⟩ := tab_split g hg n f i hi
  rw [e, ← h, List.append_assoc, List.drop_left, ← hg (f i), List.take_left]
/-- A row is laid anew. -/
def stOK (B B' : List Value) (i : Nat) (r : List Value) : Prop := i * 4 + 4 ≤ B.length ∧ B' = B.take (i * 4) ++ r ++ B.drop (i * 4 + 4)
theorem tab_set (g : Fin Rr → List Value) (hg : ∀ x, (g x).length = 4) (n : Nat) (f f' : Nat → Fin Rr) (i : Nat) (hi : i < n) (x : Fin Rr) (h1 : f' i = x) (h2 : ∀ j, j ≠ i → f' j = f j) : stOK (tab g n f) (tab g n f') i (g x) := by
  refine ⟨by rw [tab_len g hg]; omega, ?_⟩
  obtain ⟨a, b, e, h, ha, hb⟩ := tab_split g hg n f i hi
  obtain ⟨a', b', e', h', ha', hb'⟩ := tab_split g hg n f' i hi
  have e1 : a' = a := by rw [ha, ha']; exact tab_congr g i _ _ (fun j hj => h2 j (by omega))
  have e2 : b' = b := by
    rw [hb, hb']
    congr 1
    exact List.map_congr_left (fun j hj => h2 j (by have := List.mem_range'_1.1 hj; omega))
  have t1 : (a ++ g (f i) ++ b).take (i * 4) = a := by rw [← h, List.append_assoc, List.take_left]
  have t2 : (a ++ g (f i) ++ b).drop (i * 4 + 4) = b := by rw [show i * 4 + 4 = (a ++ g (f i)).length by rw [List.length_append, hg, h], List.drop_left]
  rw [e, e', e1, e2, h1, t1, t2]
theorem step_ite {f : Nat → Fin Rr} {i : Nat} (j : Nat) (hj : j ≠ i) : (if j < i + 1 then f j else 0) = if j < i then f j else 0 := by
  by_cases h : j < i
  · rw [if_pos h, if_pos (by omega)]
  · rw [if_neg h, if_neg (by omega)]
theorem st_cond {B B' : List Value} {i : Nat} {p : List Ch} (h : stOK B B' i (flat p)) (hp : sizes p = 4) : (0 + i * 4) + sizes p ≤ (flat [.l B]).length ∧ flat [.l B'] = (flat [.l B]).take (0 + i * 4) ++ flat p ++ (flat [.l B]).drop ((0 + i * 4) + sizes p) := by
  rw [flat_l, flat_l, hp, Nat.zero_add]
  exact h
theorem ld_cond {B : List Value} {i : Nat} {p : List Ch} (h : (B.drop (i * 4)).take 4 = flat p) (hp : sizes p = 4) : sizes p = 4 ∧ ((flat [.l B]).drop (0 + i * 4)).take 4 = flat p := by
  rw [flat_l, Nat.zero_add]
  exact ⟨hp, h⟩
theorem ld_cond' {B : List Value} {i : Nat} {p : List Ch} (h : (B.drop (i * 4)).take 4 = flat p) (hp : sizes p = 4) : sizes p = 4 ∧ ((flat [.l B]).drop (i * 4)).take 4 = flat p := by
  rw [flat_l]
  exact ⟨hp, h⟩
theorem tab_zero (g : Fin Rr → List Value) (hg : g 0 = List.replicate 4 (.int .u64 0)) (n : Nat) : tab g n (fun _ => 0) = List.replicate (n * 4) (.int .u64 0) := by
  unfold tab
  induction n with
  | zero => rfl
  | succ n ih => rw [List.range_succ, List.map_append, List.flatMap_append, ih, Nat.add_mul, ← List.replicate_append_replicate]; simp [hg]
theorem sC_zero : sC 0 = List.replicate 4 (.int .u64 0) := by kernel_rfl
theorem eC_zero : eC 0 = List.replicate 4 (.int .u64 0) := by kernel_rfl
theorem mk_cond (g : Fin Rr → List Value) (hg : g 0 = List.replicate 4 (.int .u64 0)) (n : Nat) (hn : n ≤ 1000000) : (n : Int) = ((n : Nat) : Int) ∧ (n : Int) = ((n : Nat) : Int) ∧ 32 * n ≤ 281474976710656 ∧ n ≤ 9223372036854775807 ∧ flat [.l (tab g n (fun _ => 0))] = zerosL [.int .u64 0, .int .u64 0, .int .u64 0, .int .u64 0] (n * 4) := by
  refine ⟨rfl, rfl, by omega, by omega, ?_⟩
  rw [flat_l, tab_zero g hg]
  exact (zerosL_rep (.int .u64 0) 3 (n * 4)).symm
def eaI (C B : List Value) (n : Nat) (z : Int) : LState := { n := 26, sl := [(1, .clo 48 [] []), (5, .sl 4 0 n n), (11, .sz 0 n), (12, .v (.int .i64 ((n : Nat) : Int))), (13, .v (.int .i64 z))], hp := [(0, .rz [.l C]), (4, .own [.l B] 65)] }
def eaE (B : List Value) (n : Nat) : LState := { n := 26, sl := [(5, .sl 4 0 n n)], hp := [(4, .own [.l B] 65)] }
theorem ea_round (C B B' : List Value) (n : Nat) (hn : n ≤ 1000000) (i : Nat) (hi : i < n) (x : Nat) (hx : x < 115792089237316195423570985008687907853269984665640564039457584007913129639936) (hl : (C.drop (i * 4)).take 4 = flat [.n 4 x]) (hs : stOK B B' i (flat [.s (ofR x)])) : Sound Try.prog 0 false (loopB Try.f53 0) (eaI C B n (i : Int)).aa .normal (eaI C B' n ((i + 1 : Nat) : Int)).aa := by
  have hh := roundK_sound (P := Try.prog) (X := rulesW _) (env := [eInSq]) ⟨eInSq_ok, trivial⟩ (n := 0) (os := oL [(9, wT), (11, rO 14 i), (12, { ch := 0, hi := fun _ => 0, ru := 8, cs := fun _ => [.n 4 x] }), (21, rO 2 i), (22, { ch := 0, hi := fun _ => 0, ex := 5, cs := fun _ => [.l B'] })]) (fb := 0) (rd := false) (c := (loopB Try.f53 0)) (k := 9) (I := eaI C B n (i : Int)) (sk := [1, 5, 11, 12, 13]) (hk := [0, 4]) (lk := []) (ex := .normal)
    (L := eaI C B' n (IntKind.i64.wrap ((i : Int) + 1))) (by kernel_rfl)
    (And.intro (st_cond (p := [.s (ofR x)]) hs rfl)
    (And.intro (show (i : Int) = ((i : Nat) : Int) ∧ i < n from ⟨rfl, hi⟩)
    (And.intro (show smS x from hx)
    (And.intro (ld_cond' (p := [.n 4 x]) hl rfl)
    (And.intro (show (i : Int) = ((i : Nat) : Int) ∧ i < n from ⟨rfl, hi⟩)
    (And.intro (show decide ((i : Int) < ((n : Nat) : Int)) = true from decide_eq_true (by omega)) trivial))))))
  rw [wrap_i64, show (if ((i : Int) + 1) % 18446744073709551616 < 9223372036854775808 then ((i : Int) + 1) % 18446744073709551616 else ((i : Int) + 1) % 18446744073709551616 - 18446744073709551616) = ((i + 1 : Nat) : Int) by omega] at hh
  exact hh
theorem ea_end (C B : List Value) (n : Nat) : Sound Try.prog 0 false (loopB Try.f53 0) (eaI C B n ((n : Nat) : Int)).aa (.exit 0) (eaE B n).aa :=
  roundK_sound (P := Try.prog) (X := rulesW _) (env := []) trivial (n := 0) (os := oL [(9, wF)]) (fb := 0) (rd := false) (c := (loopB Try.f53 0)) (k := 9) (I := eaI C B n ((n : Nat) : Int)) (sk := [5]) (hk := [4]) (lk := []) (ex := .exit 0)
    (L := eaE B n) (by kernel_rfl) (And.intro (show decide (((n : Nat) : Int) < ((n : Nat) : Int)) = false from decide_eq_false (by omega)) trivial)
theorem ea_all (C : List Value) (n : Nat) (hn : n ≤ 1000000) (f : Nat → Fin Rr) (hx : ∀ i, i < n → ∃ x : Nat, x < 115792089237316195423570985008687907853269984665640564039457584007913129639936 ∧ (C.drop (i * 4)).take 4 = flat [.n 4 x] ∧ f i = ofR x) : Sound Try.prog 0 false (.loop (loopB Try.f53 0)) (eaI C (tab sC n (fun _ => 0)) n 0).aa (.exit 0) (eaE (tab sC n f) n).aa := by
  have hh := loop_ok (P := Try.prog) (fb := 0) (rd := false) (body := (loopB Try.f53 0)) (ex := .exit 0) (E := eaE (tab sC n (fun j => if j < n then f j else 0)) n) (m := fun y : { i : Nat // i ≤ n } => n - y.val) (fun y => eaI C (tab sC n (fun j => if j < y.val then f j else 0)) n (y.val : Int)) (by simp) (fun y => ?_) ⟨0, by omega⟩
  · rw [tab_congr sC n (fun j => if j < n then f j else 0) f (fun j hj => if_pos hj), tab_congr sC n (fun j => if j < ((⟨0, by omega⟩ : { i : Nat // i ≤ n }).val) then f j else 0) (fun _ => 0) (fun j hj => if_neg (Nat.not_lt_zero j))] at hh
    exact hh
  obtain ⟨i, hi⟩ := y
  by_cases e : i < n
  · refine .inl ⟨⟨i + 1, e⟩, by show n - (i + 1) < n - i; omega, ?_⟩
    obtain ⟨x, h1, h2, h3⟩ := hx i e
    exact ea_round C _ _ n hn i e x h1 h2 (by rw [← h3]; exact tab_set sC sC_len n (fun j => if j < i then f j else 0) (fun j => if j < i + 1 then f j else 0) i e (f i) (if_pos (by omega)) step_ite)
  · have e : i = n := by omega
    subst e
    exact .inr (ea_end C _ i)
def ebI (C B : List Value) (n : Nat) (z : Int) : LState := { n := 26, sl := [(1, .clo 46 [] []), (5, .sl 4 0 n n), (11, .sl 0 0 n n), (12, .v (.int .i64 ((n : Nat) : Int))), (13, .v (.int .i64 z))], hp := [(0, .ro [.l C]), (4, .own [.l B] 34)] }
def ebE (B : List Value) (n : Nat) : LState := { n := 26, sl := [(5, .sl 4 0 n n)], hp := [(4, .own [.l B] 34)] }
theorem eb_round (C B B' : List Value) (n : Nat) (hn : n ≤ 1000000) (i : Nat) (hi : i < n) (x : Fin Rr) (hl : (C.drop (i * 4)).take 4 = flat [.s x]) (hs : stOK B B' i (flat [.e x])) : Sound Try.prog 0 false (loopB Try.f51 0) (ebI C B n (i : Int)).aa .normal (ebI C B' n ((i + 1 : Nat) : Int)).aa := by
  have hh := roundK_sound (P := Try.prog) (X := rulesW _) (env := [eOutS]) ⟨eOutS_ok, trivial⟩ (n := 0) (os := oL [(9, wT), (11, rO 2 i), (12, { ch := 0, hi := fun _ => 0, ru := 8, cs := fun _ => [.s x] }), (21, rO 2 i), (22, { ch := 0, hi := fun _ => 0, ex := 5, cs := fun _ => [.l B'] })]) (fb := 0) (rd := false) (c := (loopB Try.f51 0)) (k := 9) (I := ebI C B n (i : Int)) (sk := [1, 5, 11, 12, 13]) (hk := [0, 4]) (lk := []) (ex := .normal)
    (L := ebI C B' n (IntKind.i64.wrap ((i : Int) + 1))) (by kernel_rfl)
    (And.intro (st_cond (p := [.e x]) hs rfl)
    (And.intro (show (i : Int) = ((i : Nat) : Int) ∧ i < n from ⟨rfl, hi⟩)
    (And.intro (ld_cond (p := [.s x]) hl rfl)
    (And.intro (show (i : Int) = ((i : Nat) : Int) ∧ i < n from ⟨rfl, hi⟩)
    (And.intro (show decide ((i : Int) < ((n : Nat) : Int)) = true from decide_eq_true (by omega)) trivial)))))
  rw [wrap_i64, show (if ((i : Int) + 1) % 18446744073709551616 < 9223372036854775808 then ((i : Int) + 1) % 18446744073709551616 else ((i : Int) + 1) % 18446744073709551616 - 18446744073709551616) = ((i + 1 : Nat) : Int) by omega] at hh
  exact hh
theorem eb_end (C B : List Value) (n : Nat) : Sound Try.prog 0 false (loopB Try.f51 0) (ebI C B n ((n : Nat) : Int)).aa (.exit 0) (ebE B n).aa :=
  roundK_sound (P := Try.prog) (X := rulesW _) (env := []) trivial (n := 0) (os := oL [(9, wF)]) (fb := 0) (rd := false) (c := (loopB Try.f51 0)) (k := 9) (I := ebI C B n ((n : Nat) : Int)) (sk := [5]) (hk := [4]) (lk := []) (ex := .exit 0)
    (L := ebE B n) (by kernel_rfl) (And.intro (show decide (((n : Nat) : Int) < ((n : Nat) : Int)) = false from decide_eq_false (by omega)) trivial)
theorem eb_all (C : List Value) (n : Nat) (hn : n ≤ 1000000) (f : Nat → Fin Rr) (hx : ∀ i, i < n → (C.drop (i * 4)).take 4 = flat [.s (f i)]) : Sound Try.prog 0 false (.loop (loopB Try.f51 0)) (ebI C (tab eC n (fun _ => 0)) n 0).aa (.exit 0) (ebE (tab eC n f) n).aa := by
  have hh := loop_ok (P := Try.prog) (fb := 0) (rd := false) (body := (loopB Try.f51 0)) (ex := .exit 0) (E := ebE (tab eC n (fun j => if j < n then f j else 0)) n) (m := fun y : { i : Nat // i ≤ n } => n - y.val) (fun y => ebI C (tab eC n (fun j => if j < y.val then f j else 0)) n (y.val : Int)) (by simp) (fun y => ?_) ⟨0, by omega⟩
  · rw [tab_congr eC n (fun j => if j < n then f j else 0) f (fun j hj => if_pos hj), tab_congr eC n (fun j => if j < ((⟨0, by omega⟩ : { i : Nat // i ≤ n }).val) then f j else 0) (fun _ => 0) (fun j hj => if_neg (Nat.not_lt_zero j))] at hh
    exact hh
  obtain ⟨i, hi⟩ := y
  by_cases e : i < n
  · refine .inl ⟨⟨i + 1, e⟩, by show n - (i + 1) < n - i; omega, ?_⟩
    exact eb_round C _ _ n hn i e (f i) (hx i e) (tab_set eC eC_len n (fun j => if j < i then f j else 0) (fun j => if j < i + 1 then f j else 0) i e (f i) (if_pos (by omega)) step_ite)
  · have e : i = n := by omega
    subst e
    exact .inr (eb_end C _ i)
theorem each1 (C : List Value) (n : Nat) (hn : n ≤ 1000000) (f : Nat → Fin Rr) (hx : ∀ i, i < n → ∃ x : Nat, x < 115792089237316195423570985008687907853269984665640564039457584007913129639936 ∧ (C.drop (i * 4)).take 4 = flat [.n 4 x] ∧ f i = ofR x) : GivesN Try.prog 53 [.rz [.l C] n, .t (.clo 48 [] [])] (fun k => .sl k 0 n n) (.own [.l (tab sC n f)] 65) := by
  exact fnN_gives (P := Try.prog) (X := rulesW _) (env := []) trivial Try.func53 (fun vs w => Go.Proofs.enters_of (P := Try.prog) Try.func53 (by kernel_rfl) rfl vs w) 0 (oL [(4, { ch := 0, hi := fun _ => n, ex := 8, cs := fun _ => [.l (tab sC n (fun _ => 0))] }), (9, lpO { I := eaI C (tab sC n (fun _ => 0)) n 0, ex := .exit 0, E := eaE (tab sC n f) n, fr := 10 })]) (r0 := .sl 4 0 n n) 4 (by kernel_rfl) rfl
    (And.intro (show some (eaI C (tab sC n (fun _ => 0)) n 0) = some (eaI C (tab sC n (fun _ => 0)) n 0) from rfl)
    (And.intro (ea_all C n hn f hx)
    (And.intro (mk_cond sC sC_zero n hn) trivial))) (fun k => .sl k 0 n n) mv_sl
theorem each2 (C : List Value) (n : Nat) (hn : n ≤ 1000000) (f : Nat → Fin Rr) (hx : ∀ i, i < n → (C.drop (i * 4)).take 4 = flat [.s (f i)]) : GivesN Try.prog 51 [.rd [.l C] n n, .t (.clo 46 [] [])] (fun k => .sl k 0 n n) (.own [.l (tab eC n f)] 34) := by
  exact fnN_gives (P := Try.prog) (X := rulesW _) (env := []) trivial Try.func51 (fun vs w => Go.Proofs.enters_of (P := Try.prog) Try.func51 (by kernel_rfl) rfl vs w) 0 (oL [(4, { ch := 0, hi := fun _ => n, ex := 8, cs := fun _ => [.l (tab eC n (fun _ => 0))] }), (9, lpO { I := ebI C (tab eC n (fun _ => 0)) n 0, ex := .exit 0, E := ebE (tab eC n f) n, fr := 10 })]) (r0 := .sl 4 0 n n) 4 (by kernel_rfl) rfl
    (And.intro (show some (ebI C (tab eC n (fun _ => 0)) n 0) = some (ebI C (tab eC n (fun _ => 0)) n 0) from rfl)
    (And.intro (eb_all C n hn f hx)
    (And.intro (mk_cond eC eC_zero n hn) trivial))) (fun k => .sl k 0 n n) mv_sl
end Go.Proofs.Ytoahfmgdlpgjoaa
