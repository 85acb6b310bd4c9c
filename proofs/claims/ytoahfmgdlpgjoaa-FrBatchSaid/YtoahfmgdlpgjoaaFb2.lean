/- core.Batch: the inverses of many. -/
import Derived.Test.YtoahfmgdlpgjoaaFb1
set_option linter.unusedSimpArgs false
set_option linter.unusedVariables false
namespace Go.Proofs.Ytoahfmgdlpgjoaa
open Go.Ev Go.RowKit
def baI (C A : List Value) (n : Nat) (a : Fin Rr) (z : Int) : LState := { n := 72, sl := [(0, .sl 0 0 n n), (5, .sl 5 0 n n), (6, .p 8 0), (16, .sl 0 0 n n), (17, .v (.int .i64 ((n : Nat) : Int))), (18, .v (.int .i64 z))], hp := [(0, .ro [.l C]), (5, .own [.l A] 65), (8, .own [.s a] 65)] }
def baE (C A : List Value) (n : Nat) (a : Fin Rr) : LState := { n := 72, sl := [(0, .sl 0 0 n n), (5, .sl 5 0 n n), (6, .p 8 0)], hp := [(0, .ro [.l C]), (5, .own [.l A] 65), (8, .own [.s a] 65)] }
def bbI (C A B : List Value) (n : Nat) (a : Fin Rr) (z : Int) : LState := { n := 72, sl := [(0, .sl 0 0 n n), (5, .sl 5 0 n n), (6, .p 8 0), (9, .sl 20 0 n n), (10, .v (.int .i64 z))], hp := [(0, .ro [.l C]), (5, .own [.l A] 65), (8, .own [.s a] 65), (20, .own [.l B] 65)] }
def bbE (B : List Value) (n : Nat) : LState := { n := 72, sl := [(9, .sl 20 0 n n)], hp := [(20, .own [.l B] 65)] }
theorem ba_nz (C A A' : List Value) (n : Nat) (hn : n ≤ 1000000) (a x : Fin Rr) (i : Nat) (hi : i < n) (hl : (C.drop (i * 4)).take 4 = flat [.s x]) (hs : stOK A A' i (flat [.s a])) (h : x ≠ 0) : Sound Try.prog 0 false (loopB Try.f52 0) (baI C A n a (i : Int)).aa .normal (baI C A' n (a * x) ((i + 1 : Nat) : Int)).aa := by
  have hh := roundK_sound (P := Try.prog) (X := rulesW _) (env := [eIsZeS, eTimesS]) ⟨eIsZeS_ok, eTimesS_ok, trivial⟩ (n := 0) (os := oL [(13, wT), (15, rO 2 i), (16, { ch := 0, hi := fun _ => 0, ru := 8, cs := fun _ => [.s x] }), (23, rO 2 i), (24, { ch := 0, hi := fun _ => 0, ex := 5, cs := fun _ => [.l A'] }), (27, wO 1)]) (fb := 0) (rd := false) (c := (loopB Try.f52 0)) (k := 13) (I := baI C A n a (i : Int)) (sk := [0, 5, 6, 16, 17, 18]) (hk := [0, 5, 8]) (lk := []) (ex := .normal)
    (L := baI C A' n (a * x) (IntKind.i64.wrap ((i : Int) + 1))) (by kernel_rfl)
    (And.intro (show x ≠ 0 from h)
    (And.intro (st_cond (p := [.s a]) hs rfl)
    (And.intro (show (i : Int) = ((i : Nat) : Int) ∧ i < n from ⟨rfl, hi⟩)
    (And.intro (ld_cond (p := [.s x]) hl rfl)
    (And.intro (show (i : Int) = ((i : Nat) : Int) ∧ i < n from ⟨rfl, hi⟩)
    (And.intro (show decide ((i : Int) < ((n : Nat) : Int)) = true from decide_eq_true (by omega)) trivial))))))
  rw [wrap_i64, show (if ((i : Int) + 1) % 18446744073709551616 < 9223372036854775808 then ((i : Int) + 1) % 18446744073709551616 else ((i : Int) + 1) % 18446744073709551616 - 18446744073709551616) = ((i + 1 : Nat) : Int) by omega] at hh
  exact hh
theorem ba_z (C A A' : List Value) (n : Nat) (hn : n ≤ 1000000) (a x : Fin Rr) (i : Nat) (hi : i < n) (hl : (C.drop (i * 4)).take 4 = flat [.s x]) (hs : stOK A A' i (flat [.s a])) (h : x = 0) : Sound Try.prog 0 false (loopB Try.f52 0) (baI C A n a (i : Int)).aa .normal (baI C A' n a ((i + 1 : Nat) : Int)).aa := by
  have hh := roundK_sound (P := Try.prog) (X := rulesW _) (env := [eIsZeS, eTimesS]) ⟨eIsZeS_ok, eTimesS_ok, trivial⟩ (n := 0) (os := oL [(13, wT), (15, rO 2 i), (16, { ch := 0, hi := fun _ => 0, ru := 8, cs := fun _ => [.s x] }), (23, rO 2 i), (24, { ch := 0, hi := fun _ => 0, ex := 5, cs := fun _ => [.l A'] }), (27, wO 0)]) (fb := 0) (rd := false) (c := (loopB Try.f52 0)) (k := 13) (I := baI C A n a (i : Int)) (sk := [0, 5, 6, 16, 17, 18]) (hk := [0, 5, 8]) (lk := []) (ex := .normal)
    (L := baI C A' n a (IntKind.i64.wrap ((i : Int) + 1))) (by kernel_rfl)
    (And.intro (show x = 0 from h)
    (And.intro (st_cond (p := [.s a]) hs rfl)
    (And.intro (show (i : Int) = ((i : Nat) : Int) ∧ i < n from ⟨rfl, hi⟩)
    (And.intro (ld_cond (p := [.s x]) hl rfl)
    (And.intro (show (i : Int) = ((i : Nat) : Int) ∧ i < n from ⟨rfl, hi⟩)
    (And.intro (show decide ((i : Int) < ((n : Nat) : Int)) = true from decide_eq_true (by omega)) trivial))))))
  rw [wrap_i64, show (if ((i : Int) + 1) % 18446744073709551616 < 9223372036854775808 then ((i : Int) + 1) % 18446744073709551616 else ((i : Int) + 1) % 18446744073709551616 - 18446744073709551616) = ((i + 1 : Nat) : Int) by omega] at hh
  exact hh
theorem ba_end (C A : List Value) (n : Nat) (a : Fin Rr) : Sound Try.prog 0 false (loopB Try.f52 0) (baI C A n a ((n : Nat) : Int)).aa (.exit 0) (baE C A n a).aa := by
  have hh := roundK_sound (P := Try.prog) (X := rulesW _) (env := [eIsZeS, eTimesS]) ⟨eIsZeS_ok, eTimesS_ok, trivial⟩ (n := 0) (os := oL [(13, wF)]) (fb := 0) (rd := false) (c := (loopB Try.f52 0)) (k := 13) (I := baI C A n a ((n : Nat) : Int)) (sk := [0, 5, 6]) (hk := [0, 5, 8]) (lk := []) (ex := (.exit 0))
    (L := baE C A n a) (by kernel_rfl)
    (And.intro (show decide (((n : Nat) : Int) < ((n : Nat) : Int)) = false from decide_eq_false (by omega)) trivial)
  exact hh
theorem bb_nz (C A B B' : List Value) (n : Nat) (hn : n ≤ 1000000) (a x b : Fin Rr) (i : Nat) (hi : i < n) (hl : (C.drop (i * 4)).take 4 = flat [.s x]) (h : x ≠ 0) (hm : (A.drop (i * 4)).take 4 = flat [.s b]) (hs : stOK B B' i (flat [.s (a * b)])) : Sound Try.prog 0 false (loopB Try.f52 1) (bbI C A B n a (i : Int)).aa .normal (bbI C A B' n (a * x) ((i : Int) - 1)).aa := by
  have hh := roundK_sound (P := Try.prog) (X := rulesW _) (env := [eIsZeS, eTimesS]) ⟨eIsZeS_ok, eTimesS_ok, trivial⟩ (n := 0) (os := oL [(27, wT), (30, rO 2 i), (31, { ch := 0, hi := fun _ => 0, ru := 8, cs := fun _ => [.s x] }), (36, wO 1), (44, rO 2 i), (45, { ch := 0, hi := fun _ => 0, ru := 8, cs := fun _ => [.s b] }), (47, rO 2 i), (48, { ch := 0, hi := fun _ => 0, ex := 5, cs := fun _ => [.l B'] })]) (fb := 0) (rd := false) (c := (loopB Try.f52 1)) (k := 26) (I := bbI C A B n a (i : Int)) (sk := [0, 5, 6, 9, 10]) (hk := [0, 5, 8, 20]) (lk := []) (ex := .normal)
    (L := bbI C A B' n (a * x) (IntKind.i64.wrap ((i : Int) - 1))) (by kernel_rfl)
    (And.intro (st_cond (p := [.s (a * b)]) hs rfl)
    (And.intro (show (i : Int) = ((i : Nat) : Int) ∧ i < n from ⟨rfl, hi⟩)
    (And.intro (ld_cond (p := [.s b]) hm rfl)
    (And.intro (show (i : Int) = ((i : Nat) : Int) ∧ i < n from ⟨rfl, hi⟩)
    (And.intro (show x ≠ 0 from h)
    (And.intro (ld_cond (p := [.s x]) hl rfl)
    (And.intro (show (i : Int) = ((i : Nat) : Int) ∧ i < n from ⟨rfl, hi⟩)
    (And.intro (show decide ((i : Int) ≥ 0) = true from decide_eq_true (by omega)) trivial))))))))
  rw [wrap_i64, show (if ((i : Int) - 1) % 18446744073709551616 < 9223372036854775808 then ((i : Int) - 1) % 18446744073709551616 else ((i : Int) - 1) % 18446744073709551616 - 18446744073709551616) = (i : Int) - 1 by split <;> omega] at hh
  exact hh
theorem bb_z (C A B : List Value) (n : Nat) (hn : n ≤ 1000000) (a x b : Fin Rr) (i : Nat) (hi : i < n) (hl : (C.drop (i * 4)).take 4 = flat [.s x]) (h : x = 0) : Sound Try.prog 0 false (loopB Try.f52 1) (bbI C A B n a (i : Int)).aa .normal (bbI C A B n a ((i : Int) - 1)).aa := by
  have hh := roundK_sound (P := Try.prog) (X := rulesW _) (env := [eIsZeS, eTimesS]) ⟨eIsZeS_ok, eTimesS_ok, trivial⟩ (n := 0) (os := oL [(27, wT), (30, rO 2 i), (31, { ch := 0, hi := fun _ => 0, ru := 8, cs := fun _ => [.s x] }), (36, wO 0)]) (fb := 0) (rd := false) (c := (loopB Try.f52 1)) (k := 26) (I := bbI C A B n a (i : Int)) (sk := [0, 5, 6, 9, 10]) (hk := [0, 5, 8, 20]) (lk := []) (ex := .normal)
    (L := bbI C A B n a (IntKind.i64.wrap ((i : Int) - 1))) (by kernel_rfl)
    (And.intro (show x = 0 from h)
    (And.intro (ld_cond (p := [.s x]) hl rfl)
    (And.intro (show (i : Int) = ((i : Nat) : Int) ∧ i < n from ⟨rfl, hi⟩)
    (And.intro (show decide ((i : Int) ≥ 0) = true from decide_eq_true (by omega)) trivial))))
  rw [wrap_i64, show (if ((i : Int) - 1) % 18446744073709551616 < 9223372036854775808 then ((i : Int) - 1) % 18446744073709551616 else ((i : Int) - 1) % 18446744073709551616 - 18446744073709551616) = (i : Int) - 1 by split <;> omega] at hh
  exact hh
theorem bb_end (C A B : List Value) (n : Nat) (a : Fin Rr) : Sound Try.prog 0 false (loopB Try.f52 1) (bbI C A B n a (-1)).aa (.exit 2) (bbE B n).aa := by
  have hh := roundK_sound (P := Try.prog) (X := rulesW _) (env := [eIsZeS, eTimesS]) ⟨eIsZeS_ok, eTimesS_ok, trivial⟩ (n := 0) (os := oL []) (fb := 0) (rd := false) (c := (loopB Try.f52 1)) (k := 26) (I := bbI C A B n a (-1)) (sk := [9]) (hk := [20]) (lk := []) (ex := (.exit 2))
    (L := bbE B n) (by kernel_rfl)
    trivial
  exact hh
/-- The product of what is not 0 ahead of place i. -/
def nzp (f : Nat → Fin Rr) : Nat → Fin Rr
  | 0 => 1
  | i + 1 => if f i = 0 then nzp f i else nzp f i * f i
theorem one_neS : (1 : Fin Rr) ≠ 0 := by decide
theorem nzp_ne (f : Nat → Fin Rr) : ∀ i, nzp f i ≠ 0
  | 0 => one_neS
  | i + 1 => by
    unfold nzp
    split
    · exact nzp_ne f i
    · rename_i h
      intro e
      rcases no_zeroS e with e | e
      · exact nzp_ne f i e
      · exact h e
theorem iv_one {w u v iw jv : Fin Rr} (hw : w = u * v) (h1 : w * iw = 1) (h2 : v * jv = 1) : iw * u = jv := by
  have : iw * u = iw * u * (v * jv) := by rw [h2]; grind
  rw [this]
  have : iw * u * (v * jv) = w * iw * jv := by rw [hw]; grind
  rw [this, h1]; grind
theorem iv_nz (f : Nat → Fin Rr) (i : Nat) (h : f i ≠ 0) : (pwS (nzp f (i + 1)) 52435875175126190479447740508185965837690552500527637822603658699938581184511) * nzp f i = (pwS (f i) 52435875175126190479447740508185965837690552500527637822603658699938581184511) ∧ (pwS (nzp f (i + 1)) 52435875175126190479447740508185965837690552500527637822603658699938581184511) * f i = (pwS (nzp f i) 52435875175126190479447740508185965837690552500527637822603658699938581184511) := by
  have h1 := mul_invS (nzp_ne f (i + 1))
  have h2 := mul_invS h
  have h3 := mul_invS (nzp_ne f i)
  have e : nzp f (i + 1) = nzp f i * f i := by show (if f i = 0 then _ else _) = _; rw [if_neg h]
  generalize (pwS (nzp f (i + 1)) 52435875175126190479447740508185965837690552500527637822603658699938581184511) = iw at *
  generalize (pwS (nzp f i) 52435875175126190479447740508185965837690552500527637822603658699938581184511) = iu at *
  generalize (pwS (f i) 52435875175126190479447740508185965837690552500527637822603658699938581184511) = jv at *
  exact ⟨iv_one e h1 h2, iv_one (e.trans (by grind)) h1 h3⟩
theorem ba_all (C : List Value) (n : Nat) (hn : n ≤ 1000000) (f : Nat → Fin Rr) (hx : ∀ i, i < n → (C.drop (i * 4)).take 4 = flat [.s (f i)]) : Sound Try.prog 0 false (.loop (loopB Try.f52 0)) (baI C (tab sC n (fun _ => 0)) n 1 0).aa (.exit 0) (baE C (tab sC n (nzp f)) n (nzp f n)).aa := by
  have hh := loop_ok (P := Try.prog) (fb := 0) (rd := false) (body := (loopB Try.f52 0)) (ex := .exit 0) (E := baE C (tab sC n (fun j => if j < n then nzp f j else 0)) n (nzp f n)) (m := fun y : { i : Nat // i ≤ n } => n - y.val) (fun y => baI C (tab sC n (fun j => if j < y.val then nzp f j else 0)) n (nzp f y.val) (y.val : Int)) (by simp) (fun y => ?_) ⟨0, by omega⟩
  · rw [tab_congr sC n (fun j => if j < n then nzp f j else 0) (nzp f) (fun j hj => if_pos hj), tab_congr sC n (fun j => if j < ((⟨0, by omega⟩ : { i : Nat // i ≤ n }).val) then nzp f j else 0) (fun _ => 0) (fun j hj => if_neg (Nat.not_lt_zero j))] at hh
    exact hh
  obtain ⟨i, hi⟩ := y
  by_cases e : i < n
  · refine .inl ⟨⟨i + 1, e⟩, by show n - (i + 1) < n - i; omega, ?_⟩
    have hs := tab_set sC sC_len n (fun j => if j < i then nzp f j else 0) (fun j => if j < i + 1 then nzp f j else 0) i e (nzp f i) (if_pos (by omega)) step_ite
    by_cases h : f i = 0
    · have e2 : nzp f (i + 1) = nzp f i := by show (if f i = 0 then _ else _) = _; rw [if_pos h]
      show Sound Try.prog 0 false _ _ _ (baI C _ n (nzp f (i + 1)) _).aa
      rw [e2]
      exact ba_z C _ _ n hn (nzp f i) (f i) i e (hx i e) hs h
    · have e2 : nzp f (i + 1) = nzp f i * f i := by show (if f i = 0 then _ else _) = _; rw [if_neg h]
      show Sound Try.prog 0 false _ _ _ (baI C _ n (nzp f (i + 1)) _).aa
      rw [e2]
      exact ba_nz C _ _ n hn (nzp f i) (f i) i e (hx i e) hs h
  · have e : i = n := by omega
    subst e
    exact .inr (ba_end C _ i _)
theorem step_le {f : Nat → Fin Rr} {i : Nat} (j : Nat) (hj : j ≠ i) : (if i ≤ j then f j else 0) = if i + 1 ≤ j then f j else 0 := by
  by_cases h : i ≤ j
  · rw [if_pos h, if_pos (by omega)]
  · rw [if_neg h, if_neg (by omega)]
theorem bb_all (C : List Value) (n : Nat) (hn : n ≤ 1000000) (f : Nat → Fin Rr) (iv : Nat → Fin Rr) (iw : Nat → Fin Rr) (hiv : ∀ i, f i ≠ 0 → iw (i + 1) * nzp f i = iv i ∧ iw (i + 1) * f i = iw i) (hiz : ∀ i, f i = 0 → iv i = 0 ∧ iw (i + 1) = iw i) (hx : ∀ i, i < n → (C.drop (i * 4)).take 4 = flat [.s (f i)]) : Sound Try.prog 0 false (.loop (loopB Try.f52 1)) (bbI C (tab sC n (nzp f)) (tab sC n (fun _ => 0)) n (iw n) ((n : Int) - 1)).aa (.exit 2) (bbE (tab sC n iv) n).aa := by
  have hh := loop_ok (P := Try.prog) (fb := 0) (rd := false) (body := (loopB Try.f52 1)) (ex := .exit 2) (E := bbE (tab sC n (fun j => if 0 ≤ j then iv j else 0)) n) (m := fun y : { i : Nat // i ≤ n } => y.val) (fun y => bbI C (tab sC n (nzp f)) (tab sC n (fun j => if y.val ≤ j then iv j else 0)) n (iw y.val) ((y.val : Int) - 1)) (by simp) (fun y => ?_) ⟨n, by omega⟩
  · rw [tab_congr sC n (fun j => if 0 ≤ j then iv j else 0) iv (fun j hj => if_pos (Nat.zero_le j)), tab_congr sC n (fun j => if ((⟨n, by omega⟩ : { i : Nat // i ≤ n }).val) ≤ j then iv j else 0) (fun _ => 0) (fun j hj => if_neg (Nat.not_le.2 hj))] at hh
    exact hh
  obtain ⟨i, hi⟩ := y
  match i, hi with
  | 0, hi => exact .inr (bb_end C _ _ n _)
  | i + 1, hi =>
    refine .inl ⟨⟨i, by omega⟩, by show i < i + 1; omega, ?_⟩
    have e : i < n := by omega
    show Sound Try.prog 0 false _ (bbI C _ _ n _ (((i + 1 : Nat) : Int) - 1)).aa _ _
    rw [show ((i + 1 : Nat) : Int) - 1 = (i : Int) by omega]
    have hm : ((tab sC n (nzp f)).drop (i * 4)).take 4 = flat [.s (nzp f i)] := tab_at sC sC_len n (nzp f) i e
    by_cases h : f i = 0
    · obtain ⟨h1, h2⟩ := hiz i h
      have e2 : tab sC n (fun j => if i ≤ j then iv j else 0) = tab sC n (fun j => if i + 1 ≤ j then iv j else 0) := tab_congr sC n _ _ (fun j hj => by
        by_cases hj : j = i
        · subst hj; show (if j ≤ j then iv j else 0) = (if j + 1 ≤ j then iv j else 0); rw [if_pos (Nat.le_refl _), if_neg (by omega), h1]
        · exact step_le j hj)
      show Sound Try.prog 0 false _ (bbI C _ _ n (iw (i + 1)) _).aa _ (bbI C _ (tab sC n (fun j => if i ≤ j then iv j else 0)) n (iw i) _).aa
      rw [e2, h2]
      exact bb_z C _ _ n hn (iw i) (f i) 0 i e (hx i e) h
    · obtain ⟨h1, h2⟩ := hiv i h
      have hs := tab_set sC sC_len n (fun j => if i + 1 ≤ j then iv j else 0) (fun j => if i ≤ j then iv j else 0) i e (iw (i + 1) * nzp f i) (by show (if i ≤ i then iv i else 0) = _; rw [if_pos (Nat.le_refl _), h1]) step_le
      have := bb_nz C _ _ _ n hn (iw (i + 1)) (f i) (nzp f i) i e (hx i e) h hm hs
      rw [h2] at this
      exact this
theorem batch_run (C : List Value) (n : Nat) (hn : n ≤ 1000000) (u a : Fin Rr) (Z A W : List Value) (hz : (n : Int) = ((n : Nat) : Int) ∧ (n : Int) = ((n : Nat) : Int) ∧ 32 * n ≤ 281474976710656 ∧ n ≤ 9223372036854775807 ∧ flat [.l Z] = zerosL [.int .u64 0, .int .u64 0, .int .u64 0, .int .u64 0] (n * 4))
    (h1 : Sound Try.prog 0 false (.loop (loopB Try.f52 0)) (baI C Z n u 0).aa (.exit 0) (baE C A n a).aa) (h2 : Sound Try.prog 0 false (.loop (loopB Try.f52 1)) (bbI C A Z n ((pwS a 52435875175126190479447740508185965837690552500527637822603658699938581184511)) (IntKind.i64.wrap ((n : Int) - 1))).aa (.exit 2) (bbE W n).aa) : GivesN Try.prog 52 [.rd [.l C] n n, .t (.ag [.s u])] (fun k => .sl k 0 n n) (.own [.l W] 65) := by
  exact fnN_gives (P := Try.prog) (X := rulesW _) (env := [eIsZeS, eTimesS, eInvS]) ⟨eIsZeS_ok, eTimesS_ok, eInvS_ok, trivial⟩ Try.func52 (fun vs w => Go.Proofs.enters_of (P := Try.prog) Try.func52 (by kernel_rfl) rfl vs w) 0 (oL [(5, { ch := 0, hi := fun _ => n, ex := 8, cs := fun _ => [.l Z] }), (13, lpO { I := baI C Z n u 0, ex := .exit 0, E := baE C A n a, fr := 14 }), (20, { ch := 0, hi := fun _ => n, ex := 8, cs := fun _ => [.l Z] }), (26, lpO { I := bbI C A Z n ((pwS a 52435875175126190479447740508185965837690552500527637822603658699938581184511)) (IntKind.i64.wrap ((n : Int) - 1)), ex := .exit 2, E := bbE W n, fr := 27 })]) (r0 := .sl 20 0 n n) 20 (by kernel_rfl) rfl
    (And.intro (show some (bbI C A Z n (pwS a 52435875175126190479447740508185965837690552500527637822603658699938581184511) (IntKind.i64.wrap ((n : Int) - 1))) = some (bbI C A Z n (pwS a 52435875175126190479447740508185965837690552500527637822603658699938581184511) (IntKind.i64.wrap ((n : Int) - 1))) from rfl)
    (And.intro (h2)
    (And.intro (hz)
    (And.intro (show some (baI C Z n u 0) = some (baI C Z n u 0) from rfl)
    (And.intro (h1)
    (And.intro (hz) trivial)))))) (fun k => .sl k 0 n n) mv_sl
theorem batch_gives (C : List Value) (n : Nat) (hn : n ≤ 1000000) (u : Fin Rr) (hu : u = 1) (f : Nat → Fin Rr) (hx : ∀ i, i < n → (C.drop (i * 4)).take 4 = flat [.s (f i)]) : GivesN Try.prog 52 [.rd [.l C] n n, .t (.ag [.s u])] (fun k => .sl k 0 n n) (.own [.l (tab sC n (fun i => (pwS (f i) 52435875175126190479447740508185965837690552500527637822603658699938581184511)))] 65) := by
  have h2 := bb_all C n hn f (fun i => (pwS (f i) 52435875175126190479447740508185965837690552500527637822603658699938581184511)) (fun i => (pwS (nzp f i) 52435875175126190479447740508185965837690552500527637822603658699938581184511)) (fun i h => iv_nz f i h) (fun i h => ⟨by show (pwS (f i) 52435875175126190479447740508185965837690552500527637822603658699938581184511) = 0; rw [h]; exact inv_zeroS, by
    show (pwS (nzp f (i + 1)) 52435875175126190479447740508185965837690552500527637822603658699938581184511) = (pwS (nzp f i) 52435875175126190479447740508185965837690552500527637822603658699938581184511)
    have e2 : nzp f (i + 1) = nzp f i := by show (if f i = 0 then _ else _) = _; rw [if_pos h]
    rw [e2]⟩) hx
  have h1 := ba_all C n hn f hx
  subst hu
  refine batch_run C n hn 1 (nzp f n) _ _ _ (mk_cond sC sC_zero n hn) h1 ?_
  rw [wrap_i64, show (if ((n : Int) - 1) % 18446744073709551616 < 9223372036854775808 then ((n : Int) - 1) % 18446744073709551616 else ((n : Int) - 1) % 18446744073709551616 - 18446744073709551616) = (n : Int) - 1 by split <;> omega]
  exact h2
end Go.Proofs.Ytoahfmgdlpgjoaa
