/- Pruned: Ic. -/
import Derived.Test.YtoigbjimhcgolaaQIb
import Derived.Test.YtoigbjimhcgolaaQHb
import Derived.Test.YtoigbjimhcgolaaQHa
import Derived.Test.YtoigbjimhcgolaaQE2
import Derived.Test.YtoigbjimhcgolaaQIa
/- chirographref15: the root of a log, a domain's elements. -/
set_option linter.unusedSimpArgs false
set_option linter.unusedVariables false
namespace Go.Proofs.Ytoigbjimhcgolaa
open Go.Ev Go.RowKit
/-- Squares of squares. -/
def sqN (x : Fin Rr) : Nat → Fin Rr
  | 0 => x
  | k + 1 => sqN x k * sqN x k
def npw (x : Fin Rr) : Nat → Fin Rr
  | 0 => 1
  | k + 1 => npw x k * x
def gR : Fin Rr := ⟨10238227357739495823651030575849232062558860180284477541189508159991286009131, by decide⟩
/-- The root of a log. -/
def rt (lg : Nat) : Fin Rr := sqN gR (32 - lg)
theorem tab_succ (g : Fin Rr → List Value) (n : Nat) (f : Nat → Fin Rr) : tab g (n + 1) f = tab g n f ++ g (f n) := by
  unfold tab
  rw [List.range_succ, List.map_append, List.flatMap_append]
  simp
end Go.Proofs.Ytoigbjimhcgolaa

/- domain: roots of one, in order; sigma.Shift; sigma.numbers. -/
set_option linter.unusedSimpArgs false
set_option linter.unusedVariables false
namespace Go.Proofs.Ytoigbjimhcgolaa
open Go.Ev Go.RowKit
theorem ofR_gR : ofR 10238227357739495823651030575849232062558860180284477541189508159991286009131 = gR := by decide +kernel
theorem ofR_one : ofR (1 % 18446744073709551616) = 1 := by decide
theorem root_g : Gives Try.prog 60 [] (.ag [.s gR]) := by
  rw [← ofR_gR]
  exact fn_gives_at (P := Try.prog) (X := rulesM _) (env := [eInS]) ⟨eInS_ok, trivial⟩ Try.func60 0 (oL []) (by kernel_rfl) ⟨_, rfl⟩
    (And.intro (show (10238227357739495823651030575849232062558860180284477541189508159991286009131 : Nat) < 115792089237316195423570985008687907853269984665640564039457584007913129639936 from by decide) trivial)
def eRoot : Entry := entry0 60 [(none, .ag [.s gR])]
theorem eRoot_ok : eRoot.OK Try.prog := entry0_ok (fun args w => Go.Proofs.enters_of (P := Try.prog) Try.func60 (by kernel_rfl) rfl args w) (only root_g)
def dnI (m z : Int) (x : Fin Rr) (lg : Nat) : LState := { n := 25, sl := [(0, .v (.int .i64 ((lg : Nat) : Int))), (2, .p 0 0), (4, .p 9 0), (14, .v (.int .i64 (m))), (15, .v (.int .i64 (z)))], hp := [(0, .own [.c (.int .i64 0), .c (.int .u64 0), .c (.int .u64 0), .c (.int .u64 0), .c (.int .u64 0)] 77), (9, .own [.s x] 73)] }
def dnE (x : Fin Rr) (lg : Nat) : LState := { n := 25, sl := [(0, .v (.int .i64 ((lg : Nat) : Int))), (2, .p 0 0), (4, .p 9 0)], hp := [(0, .own [.c (.int .i64 0), .c (.int .u64 0), .c (.int .u64 0), .c (.int .u64 0), .c (.int .u64 0)] 77), (9, .own [.s x] 73)] }
theorem dn_ok (m z : Int) (x : Fin Rr) (lg : Nat) (h : decide (z < m) = true) : Sound Try.prog 0 false (loopB Try.f45 0) (dnI m z x lg).aa .normal (dnI m (IntKind.i64.wrap (z + 1)) (x * x) lg).aa := by
  have hh := roundK_sound (P := Try.prog) (X := rulesM _) (env := [eTimesS]) ⟨eTimesS_ok, trivial⟩ (n := 0) (os := (oL [(14, wT)])) (fb := 0) (rd := false) (c := (loopB Try.f45 0)) (k := 14) (I := dnI m z x lg) (sk := [0, 2, 4, 14, 15]) (hk := [0, 9]) (lk := []) (ex := .normal)
    (L := dnI m (IntKind.i64.wrap (z + 1)) (x * x) lg) (by kernel_rfl)
    (And.intro (h) trivial)
  exact hh
theorem dn_end (m z : Int) (x : Fin Rr) (lg : Nat) (h : decide (z < m) = false) : Sound Try.prog 0 false (loopB Try.f45 0) (dnI m z x lg).aa (.exit 0) (dnE x lg).aa := by
  have hh := roundK_sound (P := Try.prog) (X := rulesM _) (env := []) trivial (n := 0) (os := (oL [(14, wF)])) (fb := 0) (rd := false) (c := (loopB Try.f45 0)) (k := 14) (I := dnI m z x lg) (sk := [0, 2, 4]) (hk := [0, 9]) (lk := []) (ex := (.exit 0))
    (L := dnE x lg) (by kernel_rfl)
    (And.intro (h) trivial)
  exact hh
theorem wrap_sub (lg : Nat) (hl : lg ≤ 16) : (IntKind.i64.wrap (32 - ((lg : Nat) : Int))) = ((32 - lg : Nat) : Int) := by rw [wrap_i64]; omega
theorem dn_all (x : Fin Rr) (lg : Nat) (hl : lg ≤ 16) : Sound Try.prog 0 false (.loop (loopB Try.f45 0)) (dnI (IntKind.i64.wrap (32 - ((lg : Nat) : Int))) 0 x lg).aa (.exit 0) (dnE (sqN x (32 - lg)) lg).aa := by
  rw [wrap_sub lg hl]
  have hh := loop_ok (P := Try.prog) (fb := 0) (rd := false) (body := (loopB Try.f45 0)) (ex := .exit 0) (E := dnE (sqN x (32 - lg)) lg) (m := fun y : { i : Nat // i ≤ 32 - lg } => 32 - lg - y.val) (fun y => dnI ((32 - lg : Nat) : Int) ((y.val : Nat) : Int) (sqN x y.val) lg) (by simp) (fun y => ?_) ⟨0, by omega⟩
  · exact hh
  obtain ⟨i, hi⟩ := y
  by_cases e : i < 32 - lg
  · have h1 := dn_ok ((32 - lg : Nat) : Int) ((i : Nat) : Int) (sqN x i) lg (decide_eq_true (by omega))
    rw [r_next (by omega)] at h1
    exact .inl ⟨⟨i + 1, e⟩, by show 32 - lg - (i + 1) < 32 - lg - i; omega, h1⟩
  · have e : i = 32 - lg := by omega
    subst e
    exact .inr (dn_end ((32 - lg : Nat) : Int) ((32 - lg : Nat) : Int) (sqN x (32 - lg)) lg (decide_eq_false (by omega)))
theorem dnew_e (lg : Nat) (hl : lg ≤ 16) : GivesE Try.prog 45 [.t (.v (.int .i64 ((lg : Nat) : Int)))] (.tp [.ag [.c (.int .i64 ((lg : Nat) : Int)), .e (rt lg)], .v (.int .i64 0)]) :=
  ⟨fun vs w => Go.Proofs.enters_of (P := Try.prog) Try.func45 (by kernel_rfl) rfl vs w, fn_gives_at (P := Try.prog) (X := rulesM _) (env := [eRoot, eOutS]) ⟨eRoot_ok, eOutS_ok, trivial⟩ Try.func45 0 (oL [(3, wF), (6, wF), (14, lpO { I := dnI (IntKind.i64.wrap (32 - ((lg : Nat) : Int))) 0 gR lg, ex := .exit 0, E := dnE (rt lg) lg, fr := 15 })]) (by kernel_rfl) ⟨_, rfl⟩
    (And.intro (show some (dnI (IntKind.i64.wrap (32 - ((lg : Nat) : Int))) 0 gR lg) = some (dnI (IntKind.i64.wrap (32 - ((lg : Nat) : Int))) 0 gR lg) from rfl)
    (And.intro (show Sound Try.prog 0 false (.loop (loopB Try.f45 0)) (dnI (IntKind.i64.wrap (32 - ((lg : Nat) : Int))) 0 gR lg).aa (.exit 0) (dnE (rt lg) lg).aa from dn_all gR lg hl)
    (And.intro (show decide (((lg : Nat) : Int) > 16) = false from decide_eq_false (by omega))
    (And.intro (show decide (((lg : Nat) : Int) < 0) = false from decide_eq_false (by omega)) trivial))))⟩
def dmK : List K := [K.i .i64, K.i .u64, K.i .u64, K.i .u64, K.i .u64]
theorem wf_small {n : Nat} (h : n ≤ 1000000) : (Lit.int .i64 ((n : Nat) : Int)).wf = true := by
  simp only [Lit.wf, IntKind.min, IntKind.max, IntKind.signed, IntKind.bits]
  simp
  omega
theorem dm_fit (lg : Nat) (hl : lg ≤ 16) : Fit (flat [.c (.int .i64 ((lg : Nat) : Int)), .e (rt lg)]) dmK := by
  have e : flat [.c (.int .i64 ((lg : Nat) : Int)), .e (rt lg)] = .int .i64 ((lg : Nat) : Int) :: limbs 4 (rt lg).val := by simp [flat, Ch.cells]
  rw [e]
  exact ⟨⟨rfl, wf_small (by omega)⟩, fit_limbs 4 _⟩
theorem dright_e (lg : Nat) (hl : lg ≤ 16) : GivesE Try.prog 61 [.t (.ag [.c (.int .i64 ((lg : Nat) : Int)), .e (rt lg)])] (.v (.bool true)) :=
  ⟨fun vs w => Go.Proofs.enters_of (P := Try.prog) Try.func61 (by kernel_rfl) rfl vs w, fn_gives_at (P := Try.prog) (X := rulesM _) (env := []) trivial Try.func61 0 (oL [(4, { ch := 0, hi := fun _ => 0, ex := 7, av := fun _ => .tp [.ag [.c (.int .i64 ((lg : Nat) : Int)), .e (rt lg)], .v (.int .i64 0)] }), (16, eqO 0)]) (by kernel_rfl) ⟨_, rfl⟩
    (And.intro (show Fit (flat [.c (.int .i64 ((lg : Nat) : Int)), .e (rt lg)]) dmK ∧ Fit (flat [.c (.int .i64 ((lg : Nat) : Int)), .e (rt lg)]) dmK ∧ flat [.c (.int .i64 ((lg : Nat) : Int)), .e (rt lg)] = flat [.c (.int .i64 ((lg : Nat) : Int)), .e (rt lg)] from ⟨dm_fit lg hl, dm_fit lg hl, rfl⟩)
    (And.intro (show GivesE Try.prog 45 [.t (.v (.int .i64 ((lg : Nat) : Int)))] (.tp [.ag [.c (.int .i64 ((lg : Nat) : Int)), .e (rt lg)], .v (.int .i64 0)]) from dnew_e lg hl) trivial))⟩
def puI (B : List Value) (w x : Fin Rr) (n : Nat) (z : Int) : LState := { n := 25, sl := [(2, .p 0 0), (5, .sl 3 0 n n), (6, .p 6 0), (12, .v (.int .i64 (((n : Nat) : Int)))), (13, .v (.int .i64 (z)))], hp := [(0, .own [.s w] 73), (3, .own [.l B] 73), (6, .own [.s x] 73)] }
def puE (B : List Value) (n : Nat) : LState := { n := 25, sl := [(5, .sl 3 0 n n)], hp := [(3, .own [.l B] 73)] }
theorem pu_ok (B B' : List Value) (w x : Fin Rr) (n : Nat) (hn : n ≤ 1000000) (i : Nat) (hi : i < n) (hs : stOK B B' i (flat [.s x])) : Sound Try.prog 0 false (loopB Try.f63 0) (puI B w x n ((i : Nat) : Int)).aa .normal (puI B' w (x * w) n ((i + 1 : Nat) : Int)).aa := by
  have hh := roundK_sound (P := Try.prog) (X := rulesM _) (env := [eTimesS]) ⟨eTimesS_ok, trivial⟩ (n := 0) (os := (oL [(11, wT), (17, rO 2 i), (18, { ch := 0, hi := fun _ => 0, ex := 5, cs := fun _ => [.l B'] })])) (fb := 0) (rd := false) (c := (loopB Try.f63 0)) (k := 11) (I := puI B w x n ((i : Nat) : Int)) (sk := [2, 5, 6, 12, 13]) (hk := [0, 3, 6]) (lk := []) (ex := .normal)
    (L := puI B' w (x * w) n (IntKind.i64.wrap (((i : Nat) : Int) + 1))) (by kernel_rfl)
    (And.intro (st_cond (p := [.s x]) hs rfl)
    (And.intro (show ((i : Nat) : Int) = ((i : Nat) : Int) ∧ i < n from ⟨rfl, hi⟩)
    (And.intro (show decide (((i : Nat) : Int) < ((n : Nat) : Int)) = true from decide_eq_true (by omega)) trivial)))
  rw [r_next (by omega)] at hh
  exact hh
theorem pu_end (B : List Value) (w x : Fin Rr) (n : Nat) : Sound Try.prog 0 false (loopB Try.f63 0) (puI B w x n ((n : Nat) : Int)).aa (.exit 0) (puE B n).aa := by
  have hh := roundK_sound (P := Try.prog) (X := rulesM _) (env := []) trivial (n := 0) (os := (oL [(11, wF)])) (fb := 0) (rd := false) (c := (loopB Try.f63 0)) (k := 11) (I := puI B w x n ((n : Nat) : Int)) (sk := [5]) (hk := [3]) (lk := []) (ex := (.exit 0))
    (L := puE B n) (by kernel_rfl)
    (And.intro (show decide (((n : Nat) : Int) < ((n : Nat) : Int)) = false from decide_eq_false (by omega)) trivial)
  exact hh
theorem pu_all (w : Fin Rr) (n : Nat) (hn : n ≤ 1000000) : Sound Try.prog 0 false (.loop (loopB Try.f63 0)) (puI (tab sC n (fun _ => 0)) w 1 n 0).aa (.exit 0) (puE (tab sC n (npw w)) n).aa := by
  have hh := loop_ok (P := Try.prog) (fb := 0) (rd := false) (body := (loopB Try.f63 0)) (ex := .exit 0) (E := puE (tab sC n (fun j => if j < n then npw w j else 0)) n) (m := fun y : { i : Nat // i ≤ n } => n - y.val) (fun y => puI (tab sC n (fun j => if j < y.val then npw w j else 0)) w (npw w y.val) n (y.val : Int)) (by simp) (fun y => ?_) ⟨0, by omega⟩
  · rw [tab_congr sC n (fun j => if j < n then npw w j else 0) (npw w) (fun j hj => if_pos hj), tab_congr sC n (fun j => if j < ((⟨0, by omega⟩ : { i : Nat // i ≤ n }).val) then npw w j else 0) (fun _ => 0) (fun j hj => if_neg (Nat.not_lt_zero j))] at hh
    exact hh
  obtain ⟨i, hi⟩ := y
  by_cases e : i < n
  · exact .inl ⟨⟨i + 1, e⟩, by show n - (i + 1) < n - i; omega, pu_ok _ _ w (npw w i) n hn i e (tab_set sC sC_len n (fun j => if j < i then npw w j else 0) (fun j => if j < i + 1 then npw w j else 0) i e (npw w i) (if_pos (by omega)) step_ite)⟩
  · have e : i = n := by omega
    subst e
    exact .inr (pu_end _ w _ i)
theorem powers_n (w : Fin Rr) (n : Nat) (hn : n ≤ 1000000) : GivesN Try.prog 63 [.t (.ag [.s w]), .t (.v (.int .i64 (((n : Nat) : Int))))] (fun k => .sl k 0 n n) (.own [.l (tab sC n (npw w))] 73) :=
  fnN_gives (P := Try.prog) (X := rulesM _) (env := [eSmS]) ⟨eSmS_ok, trivial⟩ Try.func63 (fun vs w => Go.Proofs.enters_of (P := Try.prog) Try.func63 (by kernel_rfl) rfl vs w) 0 (oL [(3, { ch := 0, hi := fun _ => n, ex := 8, cs := fun _ => [.l (tab sC n (fun _ => 0))] }), (11, lpO { I := puI (tab sC n (fun _ => 0)) w (ofR (1 % 18446744073709551616)) n 0, ex := .exit 0, E := puE (tab sC n (npw w)) n, fr := 12 })]) (r0 := .sl 3 0 n n) 3 (by kernel_rfl) rfl
    (And.intro (show some (puI (tab sC n (fun _ => 0)) w (ofR (1 % 18446744073709551616)) n 0) = some (puI (tab sC n (fun _ => 0)) w (ofR (1 % 18446744073709551616)) n 0) from rfl)
    (And.intro (show Sound Try.prog 0 false (.loop (loopB Try.f63 0)) (puI (tab sC n (fun _ => 0)) w (ofR (1 % 18446744073709551616)) n 0).aa (.exit 0) (puE (tab sC n (npw w)) n).aa from by rw [ofR_one]; exact pu_all w n hn)
    (And.intro (mk_cond sC sC_zero n hn) trivial))) (fun k => .sl k 0 n n) mv_sl
def ouI (A B : List Value) (n : Nat) (z : Int) : LState := { n := 23, sl := [(3, .sl 4 0 n n), (9, .sl 0 0 n n), (10, .v (.int .i64 (((n : Nat) : Int)))), (11, .v (.int .i64 (z)))], hp := [(0, .ro [.l A]), (4, .own [.l B] 41)] }
def ouE (B : List Value) (n : Nat) : LState := { n := 23, sl := [(3, .sl 4 0 n n)], hp := [(4, .own [.l B] 41)] }
theorem ou_ok (A B B' : List Value) (n : Nat) (hn : n ≤ 1000000) (i : Nat) (hi : i < n) (x : Fin Rr) (hl : (A.drop (i * 4)).take 4 = flat [.s x]) (hs : stOK B B' i (flat [.e x])) : Sound Try.prog 0 false (loopB Try.f62 0) (ouI A B n ((i : Nat) : Int)).aa .normal (ouI A B' n ((i + 1 : Nat) : Int)).aa := by
  have hh := roundK_sound (P := Try.prog) (X := rulesM _) (env := [eOutS]) ⟨eOutS_ok, trivial⟩ (n := 0) (os := (oL [(9, wT), (11, rO 2 i), (12, { ch := 0, hi := fun _ => 0, ru := 8, cs := fun _ => [.s x] }), (20, rO 2 i), (21, { ch := 0, hi := fun _ => 0, ex := 5, cs := fun _ => [.l B'] })])) (fb := 0) (rd := false) (c := (loopB Try.f62 0)) (k := 9) (I := ouI A B n ((i : Nat) : Int)) (sk := [3, 9, 10, 11]) (hk := [0, 4]) (lk := []) (ex := .normal)
    (L := ouI A B' n (IntKind.i64.wrap (((i : Nat) : Int) + 1))) (by kernel_rfl)
    (And.intro (st_cond (p := [.e x]) hs rfl)
    (And.intro (show ((i : Nat) : Int) = ((i : Nat) : Int) ∧ i < n from ⟨rfl, hi⟩)
    (And.intro (ld_cond (p := [.s x]) hl rfl)
    (And.intro (show ((i : Nat) : Int) = ((i : Nat) : Int) ∧ i < n from ⟨rfl, hi⟩)
    (And.intro (show decide (((i : Nat) : Int) < ((n : Nat) : Int)) = true from decide_eq_true (by omega)) trivial)))))
  rw [r_next (by omega)] at hh
  exact hh
theorem ou_end (A B : List Value) (n : Nat) : Sound Try.prog 0 false (loopB Try.f62 0) (ouI A B n ((n : Nat) : Int)).aa (.exit 0) (ouE B n).aa := by
  have hh := roundK_sound (P := Try.prog) (X := rulesM _) (env := []) trivial (n := 0) (os := (oL [(9, wF)])) (fb := 0) (rd := false) (c := (loopB Try.f62 0)) (k := 9) (I := ouI A B n ((n : Nat) : Int)) (sk := [3]) (hk := [4]) (lk := []) (ex := (.exit 0))
    (L := ouE B n) (by kernel_rfl)
    (And.intro (show decide (((n : Nat) : Int) < ((n : Nat) : Int)) = false from decide_eq_false (by omega)) trivial)
  exact hh
theorem ou_all (n : Nat) (hn : n ≤ 1000000) (f : Nat → Fin Rr) : Sound Try.prog 0 false (.loop (loopB Try.f62 0)) (ouI (tab sC n f) (tab eC n (fun _ => 0)) n 0).aa (.exit 0) (ouE (tab eC n f) n).aa := by
  have hh := loop_ok (P := Try.prog) (fb := 0) (rd := false) (body := (loopB Try.f62 0)) (ex := .exit 0) (E := ouE (tab eC n (fun j => if j < n then f j else 0)) n) (m := fun y : { i : Nat // i ≤ n } => n - y.val) (fun y => ouI (tab sC n f) (tab eC n (fun j => if j < y.val then f j else 0)) n (y.val : Int)) (by simp) (fun y => ?_) ⟨0, by omega⟩
  · rw [tab_congr eC n (fun j => if j < n then f j else 0) f (fun j hj => if_pos hj), tab_congr eC n (fun j => if j < ((⟨0, by omega⟩ : { i : Nat // i ≤ n }).val) then f j else 0) (fun _ => 0) (fun j hj => if_neg (Nat.not_lt_zero j))] at hh
    exact hh
  obtain ⟨i, hi⟩ := y
  by_cases e : i < n
  · exact .inl ⟨⟨i + 1, e⟩, by show n - (i + 1) < n - i; omega, ou_ok _ _ _ n hn i e (f i) (tab_at sC sC_len n f i e) (tab_set eC eC_len n (fun j => if j < i then f j else 0) (fun j => if j < i + 1 then f j else 0) i e (f i) (if_pos (by omega)) step_ite)⟩
  · have e : i = n := by omega
    subst e
    exact .inr (ou_end _ _ i)
theorem out_n (n : Nat) (hn : n ≤ 1000000) (f : Nat → Fin Rr) : GivesN Try.prog 62 [.rd [.l (tab sC n f)] n n] (fun k => .sl k 0 n n) (.own [.l (tab eC n f)] 41) :=
  fnN_gives (P := Try.prog) (X := rulesM _) (env := []) trivial Try.func62 (fun vs w => Go.Proofs.enters_of (P := Try.prog) Try.func62 (by kernel_rfl) rfl vs w) 0 (oL [(4, { ch := 0, hi := fun _ => n, ex := 8, cs := fun _ => [.l (tab eC n (fun _ => 0))] }), (9, lpO { I := ouI (tab sC n f) (tab eC n (fun _ => 0)) n 0, ex := .exit 0, E := ouE (tab eC n f) n, fr := 10 })]) (r0 := .sl 4 0 n n) 4 (by kernel_rfl) rfl
    (And.intro (show some (ouI (tab sC n f) (tab eC n (fun _ => 0)) n 0) = some (ouI (tab sC n f) (tab eC n (fun _ => 0)) n 0) from rfl)
    (And.intro (ou_all n hn f)
    (And.intro (mk_cond eC eC_zero n hn) trivial))) (fun k => .sl k 0 n n) mv_sl
theorem mv_sl0 {j len cap : Nat} {x : Value} : ∀ (ρ ρ' : Names) k u v, ρ' j = some u → ρ k = some u → Rep ρ' (.tp [.sl j 0 len cap, .v x]) v → Rep ρ (.tp [.sl k 0 len cap, .v x]) v := by
  intro ρ ρ' k u v h1 h2 h
  simp only [Rep, Reps] at h ⊢
  obtain ⟨xs, ⟨y, r, rfl, ⟨v1, g1, rfl⟩, h3⟩, rfl⟩ := h
  rw [h1] at g1; simp only [Option.some.injEq] at g1; subst g1
  exact ⟨_, ⟨_, _, rfl, ⟨_, h2, rfl⟩, h3⟩, rfl⟩
theorem delem_n (lg : Nat) (hl : lg ≤ 5) (n : Nat) (hn : n = 2 ^ lg) (h32 : n ≤ 1000) : GivesN Try.prog 46 [.t (.ag [.c (.int .i64 ((lg : Nat) : Int)), .e (rt lg)])] (fun k => .tp [.sl k 0 n n, .v (.int .i64 0)]) (.own [.l (tab eC n (npw (rt lg)))] 41) :=
  fnN_gives (P := Try.prog) (X := rulesM _) (env := [eInSq]) ⟨eInSq_ok, trivial⟩ Try.func46 (fun vs w => Go.Proofs.enters_of (P := Try.prog) Try.func46 (by kernel_rfl) rfl vs w) 0 (oL [(4, { ch := 0, hi := fun _ => 0, ex := 7, av := fun _ => .v (.bool true) }), (11, shO lg n), (12, { ch := 0, hi := fun _ => 0, ex := 4, av := fun k => .sl k 0 n n, lp := some { I := { n := 0, sl := [], hp := [] }, ex := .ret, E := { n := 0, sl := [], hp := [(0, (.own [.l (tab sC n (npw (rt lg)))] 73))] }, fr := 0 } }), (13, { ch := 0, hi := fun _ => 0, ex := 4, av := fun k => .sl k 0 n n, lp := some { I := { n := 0, sl := [], hp := [] }, ex := .ret, E := { n := 0, sl := [], hp := [(0, (.own [.l (tab eC n (npw (rt lg)))] 41))] }, fr := 0 } })]) (r0 := .tp [.sl 13 0 n n, .v (.int .i64 0)]) 13 (by kernel_rfl) rfl
    (And.intro (out_n n (by omega) (npw (rt lg)))
    (And.intro (powers_n (rt lg) n (by omega))
    (And.intro (show ((lg : Nat) : Int) = ((lg : Nat) : Int) ∧ IntKind.i64.wrap (1 * 2 ^ min lg IntKind.i64.bits) = ((n : Nat) : Int) from ⟨rfl, by rw [hn]; exact sh_num lg (by omega)⟩)
    (And.intro (show GivesE Try.prog 61 [.t (.ag [.c (.int .i64 ((lg : Nat) : Int)), .e (rt lg)])] (.v (.bool true)) from dright_e lg (by omega)) trivial)))) (fun k => .tp [.sl k 0 n n, .v (.int .i64 0)]) mv_sl0
def shf (w : Nat) : Fin Rr := match w with | 0 => 1 | 1 => 7 | _ => 49
theorem ofR_sh : ofR (1 : Int).toNat = 1 ∧ ofR (7 : Int).toNat = 7 ∧ ofR (49 : Int).toNat = 49 := by decide
theorem shift_0 : GivesE Try.prog 13 [.t (.v (.int .i64 0))] (.ag [.e (shf 0)]) := by
  refine ⟨fun vs w => Go.Proofs.enters_of (P := Try.prog) Try.func13 (by kernel_rfl) rfl vs w, ?_⟩
  show Gives _ _ _ (.ag [.e (1 : Fin Rr)])
  rw [← ofR_sh.1]
  exact fn_gives_at (P := Try.prog) (X := rulesM _) (env := [eFSmallS]) ⟨eFSmallS_ok, trivial⟩ Try.func13 0 (oL []) (by kernel_rfl) ⟨_, rfl⟩
    (And.intro (show (0 : Int) ≤ 1 ∧ (1 : Int) < 9223372036854775808 from by decide) trivial)
theorem shift_1 : GivesE Try.prog 13 [.t (.v (.int .i64 1))] (.ag [.e (shf 1)]) := by
  refine ⟨fun vs w => Go.Proofs.enters_of (P := Try.prog) Try.func13 (by kernel_rfl) rfl vs w, ?_⟩
  show Gives _ _ _ (.ag [.e (7 : Fin Rr)])
  rw [← ofR_sh.2.1]
  exact fn_gives_at (P := Try.prog) (X := rulesM _) (env := [eFSmallS]) ⟨eFSmallS_ok, trivial⟩ Try.func13 0 (oL []) (by kernel_rfl) ⟨_, rfl⟩
    (And.intro (show (0 : Int) ≤ 7 ∧ (7 : Int) < 9223372036854775808 from by decide) trivial)
theorem shift_2 : GivesE Try.prog 13 [.t (.v (.int .i64 2))] (.ag [.e (shf 2)]) := by
  refine ⟨fun vs w => Go.Proofs.enters_of (P := Try.prog) Try.func13 (by kernel_rfl) rfl vs w, ?_⟩
  show Gives _ _ _ (.ag [.e (49 : Fin Rr)])
  rw [← ofR_sh.2.2]
  exact fn_gives_at (P := Try.prog) (X := rulesM _) (env := [eFSmallS]) ⟨eFSmallS_ok, trivial⟩ Try.func13 0 (oL []) (by kernel_rfl) ⟨_, rfl⟩
    (And.intro (show (0 : Int) ≤ 49 ∧ (49 : Int) < 9223372036854775808 from by decide) trivial)
def nmZ0 (n : Nat) (f : Nat → Fin Rr) : LState := { n := 53, sl := [(2, .p 0 0), (4, .p 2 0), (6, .v (.int .i64 0)), (7, .sl 14 0 n n), (26, .v (.int .i64 (0))), (8, .v (.int .i64 (0))), (9, .p 27 0), (32, .sl 14 0 n n), (33, .v (.int .i64 (((n : Nat) : Int)))), (34, .v (.int .i64 (0)))], hp := [(0, .own [.c (.slice none 0 0), .c (.slice none 0 0), .c (.slice none 0 0)] 70), (2, .own [.c (.slice none 0 0), .c (.slice none 0 0), .c (.slice none 0 0)] 70), (14, .own [.l (tab eC n f)] 41), (27, .own [.s (shf 0)] 73)] }
def nmI0 (n : Nat) (f : Nat → Fin Rr) (C : List Value) (i : Nat) : LState := { n := 53, sl := [(2, .p 0 0), (4, .p 2 0), (6, .v (.int .i64 0)), (7, .sl 14 0 n n), (26, .v (.int .i64 (0))), (8, .v (.int .i64 (0))), (9, .p 27 0), (32, .sl 14 0 n n), (33, .v (.int .i64 (((n : Nat) : Int)))), (34, .v (.int .i64 ((i : Nat) : Int)))], hp := [(0, .own [.c (.slice none 0 0), .c (.slice none 0 0), .c (.slice none 0 0)] 70), (2, .own [.sx 32 i, .c (.slice none 0 0), .c (.slice none 0 0)] 70), (14, .own [.l (tab eC n f)] 41), (27, .own [.s (shf 0)] 73), (32, .gr [.l C] 73 4)] }
def nmE0 (n : Nat) (f : Nat → Fin Rr) (C : List Value) : LState := { n := 53, sl := [(2, .p 0 0), (4, .p 2 0), (6, .v (.int .i64 0)), (7, .sl 14 0 n n), (26, .v (.int .i64 (0)))], hp := [(0, .own [.c (.slice none 0 0), .c (.slice none 0 0), .c (.slice none 0 0)] 70), (2, .own [.sx 32 n, .c (.slice none 0 0), .c (.slice none 0 0)] 70), (14, .own [.l (tab eC n f)] 41), (32, .gr [.l C] 73 4)] }
theorem s1_flat (y : Fin Rr) : flat [.s y] = flat [.l (sC y)] := by simp [flat, Ch.cells, sC]
theorem s_flat (C : List Value) (y : Fin Rr) : flat [.l C, .s y] = flat [.l (C ++ sC y)] := by simp [flat, Ch.cells, sC]
theorem nz0 (n : Nat) (f : Nat → Fin Rr) (hn : n ≤ 1000) (h0 : 0 < n) : Sound Try.prog 0 false (loopB Try.f26 1) (nmZ0 n f).aa .normal (nmI0 n f (sC (f 0 * shf 0)) 1).aa := by
  exact roundP_sound (P := Try.prog) (X := rulesM _) (env := [eInSq, eTimesS]) ⟨eInSq_ok, eTimesS_ok, trivial⟩ (n := 0) (os := (oL [(33, wT), (34, rO 2 0), (35, { ch := 0, hi := fun _ => 0, ru := 8, cs := fun _ => [.e (f 0)] })])) (fb := 0) (rd := false) (c := (loopB Try.f26 1)) (k := 33) (I := nmZ0 n f) (J := nmI0 n f (sC (f 0 * shf 0)) 1) (τ := [(32, 47)]) (ex := .normal) (by kernel_rfl)
    (And.intro (show ((true = true ∧ 0 = 0) ∧ (true = true ∧ 0 = 0) ∧ ((Value.int .i64 0) = (Value.int .i64 0)) ∧ (true = true ∧ 0 = 0 ∧ n = n ∧ n = n) ∧ ((Value.int .i64 0) = (Value.int .i64 0)) ∧ ((Value.int .i64 0) = (Value.int .i64 0)) ∧ (true = true ∧ 0 = 0) ∧ (true = true ∧ 0 = 0 ∧ n = n ∧ n = n) ∧ ((Value.int .i64 ((n : Nat) : Int)) = (Value.int .i64 ((n : Nat) : Int))) ∧ ((Value.int .i64 (IntKind.i64.wrap (0 + 1))) = (Value.int .i64 ((1 : Nat) : Int))) ∧ True) ∧ ((70 = 70 ∧ flat [Ch.c (.slice none 0 0), Ch.c (.slice none 0 0), Ch.c (.slice none 0 0)] = flat [Ch.c (.slice none 0 0), Ch.c (.slice none 0 0), Ch.c (.slice none 0 0)]) ∧ (70 = 70 ∧ ((true = true ∧ 1 = 1) ∧ (true = true ∧ true = true ∧ [Value.slice none 0 0] = [Value.slice none 0 0]) ∧ (true = true ∧ true = true ∧ [Value.slice none 0 0] = [Value.slice none 0 0]) ∧ True)) ∧ (41 = 41 ∧ flat [.l (tab eC n f)] = flat [.l (tab eC n f)]) ∧ (73 = 73 ∧ flat [.s (shf 0)] = flat [.s (shf 0)]) ∧ ((73 = 73 ∧ 4 = 4) ∧ flat [.s (f 0 * shf 0)] = flat [.l (sC (f 0 * shf 0))]) ∧ True) from ⟨⟨⟨rfl, rfl⟩, ⟨rfl, rfl⟩, rfl, ⟨rfl, rfl, rfl, rfl⟩, rfl, rfl, ⟨rfl, rfl⟩, ⟨rfl, rfl, rfl, rfl⟩, rfl, rfl, trivial⟩, ⟨⟨rfl, rfl⟩, ⟨rfl, ⟨⟨rfl, rfl⟩, ⟨rfl, rfl, rfl⟩, ⟨rfl, rfl, rfl⟩, trivial⟩⟩, ⟨rfl, rfl⟩, ⟨rfl, rfl⟩, ⟨⟨rfl, rfl⟩, s1_flat _⟩, trivial⟩⟩)
    (And.intro (ld_cond (i := 0) (p := [.e (f 0)]) (tab_at eC eC_len n f 0 h0) rfl)
    (And.intro (show (0 : Int) = ((0 : Nat) : Int) ∧ 0 < n from ⟨rfl, h0⟩)
    (And.intro (show decide ((0 : Int) < ((n : Nat) : Int)) = true from decide_eq_true (by omega)) trivial))))
theorem nr0 (n : Nat) (f : Nat → Fin Rr) (hn : n ≤ 1000) (C : List Value) (i : Nat) (hi : i < n) (hC : C.length = i * 4) : Sound Try.prog 0 false (loopB Try.f26 1) (nmI0 n f C i).aa .normal (nmI0 n f (C ++ sC (f i * shf 0)) (i + 1)).aa := by
  exact roundP_sound (P := Try.prog) (X := rulesM _) (env := [eInSq, eTimesS]) ⟨eInSq_ok, eTimesS_ok, trivial⟩ (n := 0) (os := (oL [(33, wT), (34, rO 2 i), (35, { ch := 0, hi := fun _ => 0, ru := 8, cs := fun _ => [.e (f i)] }), (47, { ch := 0, hi := fun _ => 0, ex := 1 })])) (fb := 0) (rd := false) (c := (loopB Try.f26 1)) (k := 33) (I := nmI0 n f C i) (J := nmI0 n f (C ++ sC (f i * shf 0)) (i + 1)) (τ := [(32, 47)]) (ex := .normal) (by kernel_rfl)
    (And.intro (show ((true = true ∧ 0 = 0) ∧ (true = true ∧ 0 = 0) ∧ ((Value.int .i64 0) = (Value.int .i64 0)) ∧ (true = true ∧ 0 = 0 ∧ n = n ∧ n = n) ∧ ((Value.int .i64 0) = (Value.int .i64 0)) ∧ ((Value.int .i64 0) = (Value.int .i64 0)) ∧ (true = true ∧ 0 = 0) ∧ (true = true ∧ 0 = 0 ∧ n = n ∧ n = n) ∧ ((Value.int .i64 ((n : Nat) : Int)) = (Value.int .i64 ((n : Nat) : Int))) ∧ ((Value.int .i64 (IntKind.i64.wrap (((i : Nat) : Int) + 1))) = (Value.int .i64 (((i + 1) : Nat) : Int))) ∧ True) ∧ ((70 = 70 ∧ flat [Ch.c (.slice none 0 0), Ch.c (.slice none 0 0), Ch.c (.slice none 0 0)] = flat [Ch.c (.slice none 0 0), Ch.c (.slice none 0 0), Ch.c (.slice none 0 0)]) ∧ (70 = 70 ∧ ((true = true ∧ (i + 1) = (i + 1)) ∧ (true = true ∧ true = true ∧ [Value.slice none 0 0] = [Value.slice none 0 0]) ∧ (true = true ∧ true = true ∧ [Value.slice none 0 0] = [Value.slice none 0 0]) ∧ True)) ∧ (41 = 41 ∧ flat [.l (tab eC n f)] = flat [.l (tab eC n f)]) ∧ (73 = 73 ∧ flat [.s (shf 0)] = flat [.s (shf 0)]) ∧ ((73 = 73 ∧ 4 = 4) ∧ flat [.l C, .s (f i * shf 0)] = flat [.l (C ++ sC (f i * shf 0))]) ∧ True) from ⟨⟨⟨rfl, rfl⟩, ⟨rfl, rfl⟩, rfl, ⟨rfl, rfl, rfl, rfl⟩, rfl, rfl, ⟨rfl, rfl⟩, ⟨rfl, rfl, rfl, rfl⟩, rfl, by rw [r_next (by omega)], trivial⟩, ⟨⟨rfl, rfl⟩, ⟨rfl, ⟨⟨rfl, rfl⟩, ⟨rfl, rfl, rfl⟩, ⟨rfl, rfl, rfl⟩, trivial⟩⟩, ⟨rfl, rfl⟩, ⟨rfl, rfl⟩, ⟨⟨rfl, rfl⟩, s_flat C _⟩, trivial⟩⟩)
    (And.intro (show sizes [.l C] = i * 4 ∧ i + 1 ≤ 9223372036854775807 ∧ (i + 1) * 32 ≤ 140737488355328 ∧ True from ⟨by show C.length + 0 = i * 4; omega, by omega, by omega, trivial⟩)
    (And.intro (ld_cond (p := [.e (f i)]) (tab_at eC eC_len n f i hi) rfl)
    (And.intro (show ((i : Nat) : Int) = ((i : Nat) : Int) ∧ i < n from ⟨rfl, hi⟩)
    (And.intro (show decide (((i : Nat) : Int) < ((n : Nat) : Int)) = true from decide_eq_true (by omega)) trivial)))))
theorem ne0 (n : Nat) (f : Nat → Fin Rr) (C : List Value) : Sound Try.prog 0 false (loopB Try.f26 1) (nmI0 n f C n).aa (.exit 2) (nmE0 n f C).aa := by
  have hh := roundK_sound (P := Try.prog) (X := rulesM _) (env := []) trivial (n := 0) (os := (oL [(33, wF)])) (fb := 0) (rd := false) (c := (loopB Try.f26 1)) (k := 33) (I := nmI0 n f C n) (sk := [2, 4, 6, 7, 26]) (hk := [0, 2, 14, 32]) (lk := []) (ex := (.exit 2))
    (L := nmE0 n f C) (by kernel_rfl)
    (And.intro (show decide (((n : Nat) : Int) < ((n : Nat) : Int)) = false from decide_eq_false (by omega)) trivial)
  exact hh
theorem na0 (n : Nat) (f : Nat → Fin Rr) (hn : n ≤ 1000) (h0 : 0 < n) : Sound Try.prog 0 false (.loop (loopB Try.f26 1)) (nmZ0 n f).aa (.exit 2) (nmE0 n f (tab sC n (fun i => f i * shf 0))).aa := by
  have hh := loop_ok (P := Try.prog) (fb := 0) (rd := false) (body := (loopB Try.f26 1)) (ex := .exit 2) (E := nmE0 n f (tab sC n (fun i => f i * shf 0))) (m := fun y : { i : Nat // i ≤ n } => n - y.val) (fun y => match y.val with | 0 => nmZ0 n f | i + 1 => nmI0 n f (tab sC (i + 1) (fun i => f i * shf 0)) (i + 1)) (by simp) (fun y => ?_) ⟨0, by omega⟩
  · exact hh
  obtain ⟨i, hi⟩ := y
  match i, hi with
  | 0, hi => exact .inl ⟨⟨1, by omega⟩, by show n - 1 < n - 0; omega, by
      have h1 := nz0 n f hn h0
      have e : tab sC 1 (fun i => f i * shf 0) = sC (f 0 * shf 0) := by rw [tab_succ]; rfl
      show Sound _ _ _ _ _ _ (nmI0 n f (tab sC (0 + 1) (fun i => f i * shf 0)) (0 + 1)).aa
      rw [e]
      exact h1⟩
  | i + 1, hi =>
    by_cases e : i + 1 < n
    · have h1 := nr0 n f hn (tab sC (i + 1) (fun i => f i * shf 0)) (i + 1) e (tab_len sC sC_len _ _)
      rw [← tab_succ sC (i + 1) (fun i => f i * shf 0)] at h1
      exact .inl ⟨⟨i + 1 + 1, e⟩, by show n - (i + 1 + 1) < n - (i + 1); omega, h1⟩
    · have e : i + 1 = n := by omega
      refine .inr ?_
      show Sound _ _ _ _ (nmI0 n f (tab sC (i + 1) (fun i => f i * shf 0)) (i + 1)).aa _ _
      rw [e]
      exact ne0 n f _
def nmZ1 (n : Nat) (f : Nat → Fin Rr) : LState := { n := 53, sl := [(2, .p 0 0), (4, .p 2 0), (6, .v (.int .i64 0)), (7, .sl 14 0 n n), (26, .v (.int .i64 (1))), (8, .v (.int .i64 (1))), (9, .p 41 0), (32, .sl 14 0 n n), (33, .v (.int .i64 (((n : Nat) : Int)))), (34, .v (.int .i64 (0)))], hp := [(0, .own [.c (.slice none 0 0), .c (.slice none 0 0), .c (.slice none 0 0)] 70), (2, .own [.sx 32 n, .c (.slice none 0 0), .c (.slice none 0 0)] 70), (14, .own [.l (tab eC n f)] 41), (41, .own [.s (shf 1)] 73), (32, .gr [.l (tab sC n (fun i => f i * shf 0))] 73 4)] }
def nmI1 (n : Nat) (f : Nat → Fin Rr) (C : List Value) (i : Nat) : LState := { n := 53, sl := [(2, .p 0 0), (4, .p 2 0), (6, .v (.int .i64 0)), (7, .sl 14 0 n n), (26, .v (.int .i64 (1))), (8, .v (.int .i64 (1))), (9, .p 41 0), (32, .sl 14 0 n n), (33, .v (.int .i64 (((n : Nat) : Int)))), (34, .v (.int .i64 ((i : Nat) : Int)))], hp := [(0, .own [.c (.slice none 0 0), .c (.slice none 0 0), .c (.slice none 0 0)] 70), (2, .own [.sx 32 n, .sx 46 i, .c (.slice none 0 0)] 70), (14, .own [.l (tab eC n f)] 41), (41, .own [.s (shf 1)] 73), (32, .gr [.l (tab sC n (fun i => f i * shf 0))] 73 4), (46, .gr [.l C] 73 4)] }
def nmE1 (n : Nat) (f : Nat → Fin Rr) (C : List Value) : LState := { n := 53, sl := [(2, .p 0 0), (4, .p 2 0), (6, .v (.int .i64 0)), (7, .sl 14 0 n n), (26, .v (.int .i64 (1)))], hp := [(0, .own [.c (.slice none 0 0), .c (.slice none 0 0), .c (.slice none 0 0)] 70), (2, .own [.sx 32 n, .sx 46 n, .c (.slice none 0 0)] 70), (14, .own [.l (tab eC n f)] 41), (32, .gr [.l (tab sC n (fun i => f i * shf 0))] 73 4), (46, .gr [.l C] 73 4)] }
theorem nz1 (n : Nat) (f : Nat → Fin Rr) (hn : n ≤ 1000) (h0 : 0 < n) : Sound Try.prog 0 false (loopB Try.f26 1) (nmZ1 n f).aa .normal (nmI1 n f (sC (f 0 * shf 1)) 1).aa := by
  exact roundP_sound (P := Try.prog) (X := rulesM _) (env := [eInSq, eTimesS]) ⟨eInSq_ok, eTimesS_ok, trivial⟩ (n := 0) (os := (oL [(47, wT), (48, rO 2 0), (49, { ch := 0, hi := fun _ => 0, ru := 8, cs := fun _ => [.e (f 0)] })])) (fb := 0) (rd := false) (c := (loopB Try.f26 1)) (k := 47) (I := nmZ1 n f) (J := nmI1 n f (sC (f 0 * shf 1)) 1) (τ := [(46, 61)]) (ex := .normal) (by kernel_rfl)
    (And.intro (show ((true = true ∧ 0 = 0) ∧ (true = true ∧ 0 = 0) ∧ ((Value.int .i64 0) = (Value.int .i64 0)) ∧ (true = true ∧ 0 = 0 ∧ n = n ∧ n = n) ∧ ((Value.int .i64 1) = (Value.int .i64 1)) ∧ ((Value.int .i64 1) = (Value.int .i64 1)) ∧ (true = true ∧ 0 = 0) ∧ (true = true ∧ 0 = 0 ∧ n = n ∧ n = n) ∧ ((Value.int .i64 ((n : Nat) : Int)) = (Value.int .i64 ((n : Nat) : Int))) ∧ ((Value.int .i64 (IntKind.i64.wrap (0 + 1))) = (Value.int .i64 ((1 : Nat) : Int))) ∧ True) ∧ ((70 = 70 ∧ flat [Ch.c (.slice none 0 0), Ch.c (.slice none 0 0), Ch.c (.slice none 0 0)] = flat [Ch.c (.slice none 0 0), Ch.c (.slice none 0 0), Ch.c (.slice none 0 0)]) ∧ (70 = 70 ∧ ((true = true ∧ n = n) ∧ (true = true ∧ 1 = 1) ∧ (true = true ∧ true = true ∧ [Value.slice none 0 0] = [Value.slice none 0 0]) ∧ True)) ∧ (41 = 41 ∧ flat [.l (tab eC n f)] = flat [.l (tab eC n f)]) ∧ (73 = 73 ∧ flat [.s (shf 1)] = flat [.s (shf 1)]) ∧ ((73 = 73 ∧ 4 = 4) ∧ flat [.l (tab sC n (fun i => f i * shf 0))] = flat [.l (tab sC n (fun i => f i * shf 0))]) ∧ ((73 = 73 ∧ 4 = 4) ∧ flat [.s (f 0 * shf 1)] = flat [.l (sC (f 0 * shf 1))]) ∧ True) from ⟨⟨⟨rfl, rfl⟩, ⟨rfl, rfl⟩, rfl, ⟨rfl, rfl, rfl, rfl⟩, rfl, rfl, ⟨rfl, rfl⟩, ⟨rfl, rfl, rfl, rfl⟩, rfl, rfl, trivial⟩, ⟨⟨rfl, rfl⟩, ⟨rfl, ⟨⟨rfl, rfl⟩, ⟨rfl, rfl⟩, ⟨rfl, rfl, rfl⟩, trivial⟩⟩, ⟨rfl, rfl⟩, ⟨rfl, rfl⟩, ⟨⟨rfl, rfl⟩, rfl⟩, ⟨⟨rfl, rfl⟩, s1_flat _⟩, trivial⟩⟩)
    (And.intro (ld_cond (i := 0) (p := [.e (f 0)]) (tab_at eC eC_len n f 0 h0) rfl)
    (And.intro (show (0 : Int) = ((0 : Nat) : Int) ∧ 0 < n from ⟨rfl, h0⟩)
    (And.intro (show decide ((0 : Int) < ((n : Nat) : Int)) = true from decide_eq_true (by omega)) trivial))))
theorem nr1 (n : Nat) (f : Nat → Fin Rr) (hn : n ≤ 1000) (C : List Value) (i : Nat) (hi : i < n) (hC : C.length = i * 4) : Sound Try.prog 0 false (loopB Try.f26 1) (nmI1 n f C i).aa .normal (nmI1 n f (C ++ sC (f i * shf 1)) (i + 1)).aa := by
  exact roundP_sound (P := Try.prog) (X := rulesM _) (env := [eInSq, eTimesS]) ⟨eInSq_ok, eTimesS_ok, trivial⟩ (n := 0) (os := (oL [(47, wT), (48, rO 2 i), (49, { ch := 0, hi := fun _ => 0, ru := 8, cs := fun _ => [.e (f i)] }), (61, { ch := 0, hi := fun _ => 0, ex := 1 })])) (fb := 0) (rd := false) (c := (loopB Try.f26 1)) (k := 47) (I := nmI1 n f C i) (J := nmI1 n f (C ++ sC (f i * shf 1)) (i + 1)) (τ := [(46, 61)]) (ex := .normal) (by kernel_rfl)
    (And.intro (show ((true = true ∧ 0 = 0) ∧ (true = true ∧ 0 = 0) ∧ ((Value.int .i64 0) = (Value.int .i64 0)) ∧ (true = true ∧ 0 = 0 ∧ n = n ∧ n = n) ∧ ((Value.int .i64 1) = (Value.int .i64 1)) ∧ ((Value.int .i64 1) = (Value.int .i64 1)) ∧ (true = true ∧ 0 = 0) ∧ (true = true ∧ 0 = 0 ∧ n = n ∧ n = n) ∧ ((Value.int .i64 ((n : Nat) : Int)) = (Value.int .i64 ((n : Nat) : Int))) ∧ ((Value.int .i64 (IntKind.i64.wrap (((i : Nat) : Int) + 1))) = (Value.int .i64 (((i + 1) : Nat) : Int))) ∧ True) ∧ ((70 = 70 ∧ flat [Ch.c (.slice none 0 0), Ch.c (.slice none 0 0), Ch.c (.slice none 0 0)] = flat [Ch.c (.slice none 0 0), Ch.c (.slice none 0 0), Ch.c (.slice none 0 0)]) ∧ (70 = 70 ∧ ((true = true ∧ n = n) ∧ (true = true ∧ (i + 1) = (i + 1)) ∧ (true = true ∧ true = true ∧ [Value.slice none 0 0] = [Value.slice none 0 0]) ∧ True)) ∧ (41 = 41 ∧ flat [.l (tab eC n f)] = flat [.l (tab eC n f)]) ∧ (73 = 73 ∧ flat [.s (shf 1)] = flat [.s (shf 1)]) ∧ ((73 = 73 ∧ 4 = 4) ∧ flat [.l (tab sC n (fun i => f i * shf 0))] = flat [.l (tab sC n (fun i => f i * shf 0))]) ∧ ((73 = 73 ∧ 4 = 4) ∧ flat [.l C, .s (f i * shf 1)] = flat [.l (C ++ sC (f i * shf 1))]) ∧ True) from ⟨⟨⟨rfl, rfl⟩, ⟨rfl, rfl⟩, rfl, ⟨rfl, rfl, rfl, rfl⟩, rfl, rfl, ⟨rfl, rfl⟩, ⟨rfl, rfl, rfl, rfl⟩, rfl, by rw [r_next (by omega)], trivial⟩, ⟨⟨rfl, rfl⟩, ⟨rfl, ⟨⟨rfl, rfl⟩, ⟨rfl, rfl⟩, ⟨rfl, rfl, rfl⟩, trivial⟩⟩, ⟨rfl, rfl⟩, ⟨rfl, rfl⟩, ⟨⟨rfl, rfl⟩, rfl⟩, ⟨⟨rfl, rfl⟩, s_flat C _⟩, trivial⟩⟩)
    (And.intro (show sizes [.l C] = i * 4 ∧ i + 1 ≤ 9223372036854775807 ∧ (i + 1) * 32 ≤ 140737488355328 ∧ True from ⟨by show C.length + 0 = i * 4; omega, by omega, by omega, trivial⟩)
    (And.intro (ld_cond (p := [.e (f i)]) (tab_at eC eC_len n f i hi) rfl)
    (And.intro (show ((i : Nat) : Int) = ((i : Nat) : Int) ∧ i < n from ⟨rfl, hi⟩)
    (And.intro (show decide (((i : Nat) : Int) < ((n : Nat) : Int)) = true from decide_eq_true (by omega)) trivial)))))
theorem ne1 (n : Nat) (f : Nat → Fin Rr) (C : List Value) : Sound Try.prog 0 false (loopB Try.f26 1) (nmI1 n f C n).aa (.exit 2) (nmE1 n f C).aa := by
  have hh := roundK_sound (P := Try.prog) (X := rulesM _) (env := []) trivial (n := 0) (os := (oL [(47, wF)])) (fb := 0) (rd := false) (c := (loopB Try.f26 1)) (k := 47) (I := nmI1 n f C n) (sk := [2, 4, 6, 7, 26]) (hk := [0, 2, 14, 32, 46]) (lk := []) (ex := (.exit 2))
    (L := nmE1 n f C) (by kernel_rfl)
    (And.intro (show decide (((n : Nat) : Int) < ((n : Nat) : Int)) = false from decide_eq_false (by omega)) trivial)
  exact hh
theorem na1 (n : Nat) (f : Nat → Fin Rr) (hn : n ≤ 1000) (h0 : 0 < n) : Sound Try.prog 0 false (.loop (loopB Try.f26 1)) (nmZ1 n f).aa (.exit 2) (nmE1 n f (tab sC n (fun i => f i * shf 1))).aa := by
  have hh := loop_ok (P := Try.prog) (fb := 0) (rd := false) (body := (loopB Try.f26 1)) (ex := .exit 2) (E := nmE1 n f (tab sC n (fun i => f i * shf 1))) (m := fun y : { i : Nat // i ≤ n } => n - y.val) (fun y => match y.val with | 0 => nmZ1 n f | i + 1 => nmI1 n f (tab sC (i + 1) (fun i => f i * shf 1)) (i + 1)) (by simp) (fun y => ?_) ⟨0, by omega⟩
  · exact hh
  obtain ⟨i, hi⟩ := y
  match i, hi with
  | 0, hi => exact .inl ⟨⟨1, by omega⟩, by show n - 1 < n - 0; omega, by
      have h1 := nz1 n f hn h0
      have e : tab sC 1 (fun i => f i * shf 1) = sC (f 0 * shf 1) := by rw [tab_succ]; rfl
      show Sound _ _ _ _ _ _ (nmI1 n f (tab sC (0 + 1) (fun i => f i * shf 1)) (0 + 1)).aa
      rw [e]
      exact h1⟩
  | i + 1, hi =>
    by_cases e : i + 1 < n
    · have h1 := nr1 n f hn (tab sC (i + 1) (fun i => f i * shf 1)) (i + 1) e (tab_len sC sC_len _ _)
      rw [← tab_succ sC (i + 1) (fun i => f i * shf 1)] at h1
      exact .inl ⟨⟨i + 1 + 1, e⟩, by show n - (i + 1 + 1) < n - (i + 1); omega, h1⟩
    · have e : i + 1 = n := by omega
      refine .inr ?_
      show Sound _ _ _ _ (nmI1 n f (tab sC (i + 1) (fun i => f i * shf 1)) (i + 1)).aa _ _
      rw [e]
      exact ne1 n f _
def nmZ2 (n : Nat) (f : Nat → Fin Rr) : LState := { n := 53, sl := [(2, .p 0 0), (4, .p 2 0), (6, .v (.int .i64 0)), (7, .sl 14 0 n n), (26, .v (.int .i64 (2))), (8, .v (.int .i64 (2))), (9, .p 55 0), (32, .sl 14 0 n n), (33, .v (.int .i64 (((n : Nat) : Int)))), (34, .v (.int .i64 (0)))], hp := [(0, .own [.c (.slice none 0 0), .c (.slice none 0 0), .c (.slice none 0 0)] 70), (2, .own [.sx 32 n, .sx 46 n, .c (.slice none 0 0)] 70), (14, .own [.l (tab eC n f)] 41), (55, .own [.s (shf 2)] 73), (32, .gr [.l (tab sC n (fun i => f i * shf 0))] 73 4), (46, .gr [.l (tab sC n (fun i => f i * shf 1))] 73 4)] }
def nmI2 (n : Nat) (f : Nat → Fin Rr) (C : List Value) (i : Nat) : LState := { n := 53, sl := [(2, .p 0 0), (4, .p 2 0), (6, .v (.int .i64 0)), (7, .sl 14 0 n n), (26, .v (.int .i64 (2))), (8, .v (.int .i64 (2))), (9, .p 55 0), (32, .sl 14 0 n n), (33, .v (.int .i64 (((n : Nat) : Int)))), (34, .v (.int .i64 ((i : Nat) : Int)))], hp := [(0, .own [.c (.slice none 0 0), .c (.slice none 0 0), .c (.slice none 0 0)] 70), (2, .own [.sx 32 n, .sx 46 n, .sx 60 i] 70), (14, .own [.l (tab eC n f)] 41), (55, .own [.s (shf 2)] 73), (32, .gr [.l (tab sC n (fun i => f i * shf 0))] 73 4), (46, .gr [.l (tab sC n (fun i => f i * shf 1))] 73 4), (60, .gr [.l C] 73 4)] }
def nmE2 (n : Nat) (f : Nat → Fin Rr) (C : List Value) : LState := { n := 53, sl := [(2, .p 0 0), (4, .p 2 0), (6, .v (.int .i64 0)), (7, .sl 14 0 n n), (26, .v (.int .i64 (2)))], hp := [(0, .own [.c (.slice none 0 0), .c (.slice none 0 0), .c (.slice none 0 0)] 70), (2, .own [.sx 32 n, .sx 46 n, .sx 60 n] 70), (14, .own [.l (tab eC n f)] 41), (32, .gr [.l (tab sC n (fun i => f i * shf 0))] 73 4), (46, .gr [.l (tab sC n (fun i => f i * shf 1))] 73 4), (60, .gr [.l C] 73 4)] }
theorem nz2 (n : Nat) (f : Nat → Fin Rr) (hn : n ≤ 1000) (h0 : 0 < n) : Sound Try.prog 0 false (loopB Try.f26 1) (nmZ2 n f).aa .normal (nmI2 n f (sC (f 0 * shf 2)) 1).aa := by
  exact roundP_sound (P := Try.prog) (X := rulesM _) (env := [eInSq, eTimesS]) ⟨eInSq_ok, eTimesS_ok, trivial⟩ (n := 0) (os := (oL [(61, wT), (62, rO 2 0), (63, { ch := 0, hi := fun _ => 0, ru := 8, cs := fun _ => [.e (f 0)] })])) (fb := 0) (rd := false) (c := (loopB Try.f26 1)) (k := 61) (I := nmZ2 n f) (J := nmI2 n f (sC (f 0 * shf 2)) 1) (τ := [(60, 75)]) (ex := .normal) (by kernel_rfl)
    (And.intro (show ((true = true ∧ 0 = 0) ∧ (true = true ∧ 0 = 0) ∧ ((Value.int .i64 0) = (Value.int .i64 0)) ∧ (true = true ∧ 0 = 0 ∧ n = n ∧ n = n) ∧ ((Value.int .i64 2) = (Value.int .i64 2)) ∧ ((Value.int .i64 2) = (Value.int .i64 2)) ∧ (true = true ∧ 0 = 0) ∧ (true = true ∧ 0 = 0 ∧ n = n ∧ n = n) ∧ ((Value.int .i64 ((n : Nat) : Int)) = (Value.int .i64 ((n : Nat) : Int))) ∧ ((Value.int .i64 (IntKind.i64.wrap (0 + 1))) = (Value.int .i64 ((1 : Nat) : Int))) ∧ True) ∧ ((70 = 70 ∧ flat [Ch.c (.slice none 0 0), Ch.c (.slice none 0 0), Ch.c (.slice none 0 0)] = flat [Ch.c (.slice none 0 0), Ch.c (.slice none 0 0), Ch.c (.slice none 0 0)]) ∧ (70 = 70 ∧ ((true = true ∧ n = n) ∧ (true = true ∧ n = n) ∧ (true = true ∧ 1 = 1) ∧ True)) ∧ (41 = 41 ∧ flat [.l (tab eC n f)] = flat [.l (tab eC n f)]) ∧ (73 = 73 ∧ flat [.s (shf 2)] = flat [.s (shf 2)]) ∧ ((73 = 73 ∧ 4 = 4) ∧ flat [.l (tab sC n (fun i => f i * shf 0))] = flat [.l (tab sC n (fun i => f i * shf 0))]) ∧ ((73 = 73 ∧ 4 = 4) ∧ flat [.l (tab sC n (fun i => f i * shf 1))] = flat [.l (tab sC n (fun i => f i * shf 1))]) ∧ ((73 = 73 ∧ 4 = 4) ∧ flat [.s (f 0 * shf 2)] = flat [.l (sC (f 0 * shf 2))]) ∧ True) from ⟨⟨⟨rfl, rfl⟩, ⟨rfl, rfl⟩, rfl, ⟨rfl, rfl, rfl, rfl⟩, rfl, rfl, ⟨rfl, rfl⟩, ⟨rfl, rfl, rfl, rfl⟩, rfl, rfl, trivial⟩, ⟨⟨rfl, rfl⟩, ⟨rfl, ⟨⟨rfl, rfl⟩, ⟨rfl, rfl⟩, ⟨rfl, rfl⟩, trivial⟩⟩, ⟨rfl, rfl⟩, ⟨rfl, rfl⟩, ⟨⟨rfl, rfl⟩, rfl⟩, ⟨⟨rfl, rfl⟩, rfl⟩, ⟨⟨rfl, rfl⟩, s1_flat _⟩, trivial⟩⟩)
    (And.intro (ld_cond (i := 0) (p := [.e (f 0)]) (tab_at eC eC_len n f 0 h0) rfl)
    (And.intro (show (0 : Int) = ((0 : Nat) : Int) ∧ 0 < n from ⟨rfl, h0⟩)
    (And.intro (show decide ((0 : Int) < ((n : Nat) : Int)) = true from decide_eq_true (by omega)) trivial))))
theorem nr2 (n : Nat) (f : Nat → Fin Rr) (hn : n ≤ 1000) (C : List Value) (i : Nat) (hi : i < n) (hC : C.length = i * 4) : Sound Try.prog 0 false (loopB Try.f26 1) (nmI2 n f C i).aa .normal (nmI2 n f (C ++ sC (f i * shf 2)) (i + 1)).aa := by
  exact roundP_sound (P := Try.prog) (X := rulesM _) (env := [eInSq, eTimesS]) ⟨eInSq_ok, eTimesS_ok, trivial⟩ (n := 0) (os := (oL [(61, wT), (62, rO 2 i), (63, { ch := 0, hi := fun _ => 0, ru := 8, cs := fun _ => [.e (f i)] }), (75, { ch := 0, hi := fun _ => 0, ex := 1 })])) (fb := 0) (rd := false) (c := (loopB Try.f26 1)) (k := 61) (I := nmI2 n f C i) (J := nmI2 n f (C ++ sC (f i * shf 2)) (i + 1)) (τ := [(60, 75)]) (ex := .normal) (by kernel_rfl)
    (And.intro (show ((true = true ∧ 0 = 0) ∧ (true = true ∧ 0 = 0) ∧ ((Value.int .i64 0) = (Value.int .i64 0)) ∧ (true = true ∧ 0 = 0 ∧ n = n ∧ n = n) ∧ ((Value.int .i64 2) = (Value.int .i64 2)) ∧ ((Value.int .i64 2) = (Value.int .i64 2)) ∧ (true = true ∧ 0 = 0) ∧ (true = true ∧ 0 = 0 ∧ n = n ∧ n = n) ∧ ((Value.int .i64 ((n : Nat) : Int)) = (Value.int .i64 ((n : Nat) : Int))) ∧ ((Value.int .i64 (IntKind.i64.wrap (((i : Nat) : Int) + 1))) = (Value.int .i64 (((i + 1) : Nat) : Int))) ∧ True) ∧ ((70 = 70 ∧ flat [Ch.c (.slice none 0 0), Ch.c (.slice none 0 0), Ch.c (.slice none 0 0)] = flat [Ch.c (.slice none 0 0), Ch.c (.slice none 0 0), Ch.c (.slice none 0 0)]) ∧ (70 = 70 ∧ ((true = true ∧ n = n) ∧ (true = true ∧ n = n) ∧ (true = true ∧ (i + 1) = (i + 1)) ∧ True)) ∧ (41 = 41 ∧ flat [.l (tab eC n f)] = flat [.l (tab eC n f)]) ∧ (73 = 73 ∧ flat [.s (shf 2)] = flat [.s (shf 2)]) ∧ ((73 = 73 ∧ 4 = 4) ∧ flat [.l (tab sC n (fun i => f i * shf 0))] = flat [.l (tab sC n (fun i => f i * shf 0))]) ∧ ((73 = 73 ∧ 4 = 4) ∧ flat [.l (tab sC n (fun i => f i * shf 1))] = flat [.l (tab sC n (fun i => f i * shf 1))]) ∧ ((73 = 73 ∧ 4 = 4) ∧ flat [.l C, .s (f i * shf 2)] = flat [.l (C ++ sC (f i * shf 2))]) ∧ True) from ⟨⟨⟨rfl, rfl⟩, ⟨rfl, rfl⟩, rfl, ⟨rfl, rfl, rfl, rfl⟩, rfl, rfl, ⟨rfl, rfl⟩, ⟨rfl, rfl, rfl, rfl⟩, rfl, by rw [r_next (by omega)], trivial⟩, ⟨⟨rfl, rfl⟩, ⟨rfl, ⟨⟨rfl, rfl⟩, ⟨rfl, rfl⟩, ⟨rfl, rfl⟩, trivial⟩⟩, ⟨rfl, rfl⟩, ⟨rfl, rfl⟩, ⟨⟨rfl, rfl⟩, rfl⟩, ⟨⟨rfl, rfl⟩, rfl⟩, ⟨⟨rfl, rfl⟩, s_flat C _⟩, trivial⟩⟩)
    (And.intro (show sizes [.l C] = i * 4 ∧ i + 1 ≤ 9223372036854775807 ∧ (i + 1) * 32 ≤ 140737488355328 ∧ True from ⟨by show C.length + 0 = i * 4; omega, by omega, by omega, trivial⟩)
    (And.intro (ld_cond (p := [.e (f i)]) (tab_at eC eC_len n f i hi) rfl)
    (And.intro (show ((i : Nat) : Int) = ((i : Nat) : Int) ∧ i < n from ⟨rfl, hi⟩)
    (And.intro (show decide (((i : Nat) : Int) < ((n : Nat) : Int)) = true from decide_eq_true (by omega)) trivial)))))
theorem ne2 (n : Nat) (f : Nat → Fin Rr) (C : List Value) : Sound Try.prog 0 false (loopB Try.f26 1) (nmI2 n f C n).aa (.exit 2) (nmE2 n f C).aa := by
  have hh := roundK_sound (P := Try.prog) (X := rulesM _) (env := []) trivial (n := 0) (os := (oL [(61, wF)])) (fb := 0) (rd := false) (c := (loopB Try.f26 1)) (k := 61) (I := nmI2 n f C n) (sk := [2, 4, 6, 7, 26]) (hk := [0, 2, 14, 32, 46, 60]) (lk := []) (ex := (.exit 2))
    (L := nmE2 n f C) (by kernel_rfl)
    (And.intro (show decide (((n : Nat) : Int) < ((n : Nat) : Int)) = false from decide_eq_false (by omega)) trivial)
  exact hh
theorem na2 (n : Nat) (f : Nat → Fin Rr) (hn : n ≤ 1000) (h0 : 0 < n) : Sound Try.prog 0 false (.loop (loopB Try.f26 1)) (nmZ2 n f).aa (.exit 2) (nmE2 n f (tab sC n (fun i => f i * shf 2))).aa := by
  have hh := loop_ok (P := Try.prog) (fb := 0) (rd := false) (body := (loopB Try.f26 1)) (ex := .exit 2) (E := nmE2 n f (tab sC n (fun i => f i * shf 2))) (m := fun y : { i : Nat // i ≤ n } => n - y.val) (fun y => match y.val with | 0 => nmZ2 n f | i + 1 => nmI2 n f (tab sC (i + 1) (fun i => f i * shf 2)) (i + 1)) (by simp) (fun y => ?_) ⟨0, by omega⟩
  · exact hh
  obtain ⟨i, hi⟩ := y
  match i, hi with
  | 0, hi => exact .inl ⟨⟨1, by omega⟩, by show n - 1 < n - 0; omega, by
      have h1 := nz2 n f hn h0
      have e : tab sC 1 (fun i => f i * shf 2) = sC (f 0 * shf 2) := by rw [tab_succ]; rfl
      show Sound _ _ _ _ _ _ (nmI2 n f (tab sC (0 + 1) (fun i => f i * shf 2)) (0 + 1)).aa
      rw [e]
      exact h1⟩
  | i + 1, hi =>
    by_cases e : i + 1 < n
    · have h1 := nr2 n f hn (tab sC (i + 1) (fun i => f i * shf 2)) (i + 1) e (tab_len sC sC_len _ _)
      rw [← tab_succ sC (i + 1) (fun i => f i * shf 2)] at h1
      exact .inl ⟨⟨i + 1 + 1, e⟩, by show n - (i + 1 + 1) < n - (i + 1); omega, h1⟩
    · have e : i + 1 = n := by omega
      refine .inr ?_
      show Sound _ _ _ _ (nmI2 n f (tab sC (i + 1) (fun i => f i * shf 2)) (i + 1)).aa _ _
      rw [e]
      exact ne2 n f _
theorem numbers_m (lg : Nat) (hl : lg ≤ 5) (n : Nat) (hn : n = 2 ^ lg) (h32 : n ≤ 1000) (h0 : 0 < n) (a b c : Nat) : GivesM Try.prog 26 [.t (.v (.int .i64 ((lg : Nat) : Int)))] (.tp [.ag [.sx a n, .sx b n, .sx c n], .v (.int .i64 0)]) [(a, .gr [.l (tab sC n (fun i => npw (rt lg) i * shf 0))] 73 4), (b, .gr [.l (tab sC n (fun i => npw (rt lg) i * shf 1))] 73 4), (c, .gr [.l (tab sC n (fun i => npw (rt lg) i * shf 2))] 73 4)] :=
  fnMs_gives (P := Try.prog) (X := rulesM _) (env := [eInSq]) ⟨eInSq_ok, trivial⟩ Try.func26 (fun vs w => Go.Proofs.enters_of (P := Try.prog) Try.func26 (by kernel_rfl) rfl vs w) 0 (oL [(4, { ch := 0, hi := fun _ => 0, ex := 7, av := fun _ => .tp [.ag [.c (.int .i64 ((lg : Nat) : Int)), .e (rt lg)], .v (.int .i64 0)] }), (14, { ch := 0, hi := fun _ => 0, ex := 4, av := fun k => .tp [.sl k 0 n n, .v (.int .i64 0)], lp := some { I := { n := 0, sl := [], hp := [] }, ex := .ret, E := { n := 0, sl := [], hp := [(0, (.own [.l (tab eC n (npw (rt lg)))] 41))] }, fr := 0 } }), (25, { ch := 0, hi := fun _ => 0, ex := 7, av := fun _ => .ag [.e (shf 0)] }), (39, { ch := 0, hi := fun _ => 0, ex := 7, av := fun _ => .ag [.e (shf 1)] }), (53, { ch := 0, hi := fun _ => 0, ex := 7, av := fun _ => .ag [.e (shf 2)] }), (32, lpO { I := nmZ0 n (npw (rt lg)), ex := .exit 2, E := nmE0 n (npw (rt lg)) (tab sC n (fun i => npw (rt lg) i * shf 0)), fr := 33 }), (46, lpO { I := nmZ1 n (npw (rt lg)), ex := .exit 2, E := nmE1 n (npw (rt lg)) (tab sC n (fun i => npw (rt lg) i * shf 1)), fr := 47 }), (60, lpO { I := nmZ2 n (npw (rt lg)), ex := .exit 2, E := nmE2 n (npw (rt lg)) (tab sC n (fun i => npw (rt lg) i * shf 2)), fr := 61 })]) (r0 := .tp [.ag [.sx 32 n, .sx 46 n, .sx 60 n], .v (.int .i64 0)]) [32, 46, 60] [(a, .gr [.l (tab sC n (fun i => npw (rt lg) i * shf 0))] 73 4), (b, .gr [.l (tab sC n (fun i => npw (rt lg) i * shf 1))] 73 4), (c, .gr [.l (tab sC n (fun i => npw (rt lg) i * shf 2))] 73 4)] (by kernel_rfl)
    (And.intro (show some (nmZ2 n (npw (rt lg))) = some (nmZ2 n (npw (rt lg))) from rfl)
    (And.intro (na2 n (npw (rt lg)) h32 h0)
    (And.intro (show GivesE Try.prog 13 [.t (.v (.int .i64 2))] (.ag [.e (shf 2)]) from shift_2)
    (And.intro (show some (nmZ1 n (npw (rt lg))) = some (nmZ1 n (npw (rt lg))) from rfl)
    (And.intro (na1 n (npw (rt lg)) h32 h0)
    (And.intro (show GivesE Try.prog 13 [.t (.v (.int .i64 1))] (.ag [.e (shf 1)]) from shift_1)
    (And.intro (show some (nmZ0 n (npw (rt lg))) = some (nmZ0 n (npw (rt lg))) from rfl)
    (And.intro (na0 n (npw (rt lg)) h32 h0)
    (And.intro (show GivesE Try.prog 13 [.t (.v (.int .i64 0))] (.ag [.e (shf 0)]) from shift_0)
    (And.intro (delem_n lg hl n hn h32)
    (And.intro (show GivesE Try.prog 45 [.t (.v (.int .i64 ((lg : Nat) : Int)))] (.tp [.ag [.c (.int .i64 ((lg : Nat) : Int)), .e (rt lg)], .v (.int .i64 0)]) from dnew_e lg (by omega)) trivial))))))))))) _ (fun q hq => by simp only [List.mem_cons, List.not_mem_nil, or_false] at hq; rcases hq with rfl | rfl | rfl <;> rfl) (by decide) mv_three
end Go.Proofs.Ytoigbjimhcgolaa

/- Rows of k cells; places as pairs; what sigma.Next keeps, step by step. Plain. -/
set_option linter.unusedSimpArgs false
set_option linter.unusedVariables false
namespace Go.Proofs.Ytoigbjimhcgolaa
open Go.Ev Go.RowKit

/-- Rows: what f says at the first n places. -/
def tabG {α : Type} (g : α → List Value) (n : Nat) (f : Nat → α) : List Value := ((List.range n).map f).flatMap g
theorem tabG_len {α : Type} {k : Nat} (g : α → List Value) (hg : ∀ x, (g x).length = k) (n : Nat) (f : Nat → α) : (tabG g n f).length = n * k := by
  unfold tabG
  induction n with
  | zero => simp
  | succ n ih => rw [List.range_succ, List.map_append, List.flatMap_append, List.length_append, ih, Nat.add_mul]; simp [hg]
theorem tabG_congr {α : Type} (g : α → List Value) (n : Nat) (f f' : Nat → α) (h : ∀ j, j < n → f j = f' j) : tabG g n f = tabG g n f' := by
  unfold tabG
  rw [List.map_congr_left (fun j hj => h j (List.mem_range.1 hj))]
theorem tabG_succ {α : Type} (g : α → List Value) (n : Nat) (f : Nat → α) : tabG g (n + 1) f = tabG g n f ++ g (f n) := by
  unfold tabG
  rw [List.range_succ, List.map_append, List.flatMap_append]
  simp
theorem tabG_split {α : Type} {k : Nat} (g : α → List Value) (hg : ∀ x, (g x).length = k) (n : Nat) (f : Nat → α) (i : Nat) (hi : i < n) : ∃ a b, tabG g n f = a ++ g (f i) ++ b ∧ a.length = i * k ∧ a = tabG g i f ∧ b = ((List.range' (i + 1) (n - i - 1)).map f).flatMap g := by
  refine ⟨tabG g i f, ((List.range' (i + 1) (n - i - 1)).map f).flatMap g, ?_, tabG_len g hg i f, rfl, rfl⟩
  unfold tabG
  have e : List.range n = List.range i ++ ([i] ++ List.range' (i + 1) (n - i - 1)) := by
    rw [List.range_eq_range', List.range_eq_range']
    have h1 : List.range' 0 n = List.range' 0 i ++ List.range' i (n - i) := by
      have := List.range'_append_1 (s := 0) (m := i) (n := n - i)
      rw [Nat.zero_add] at this
      rw [this]; congr 1; omega
    have h2 : List.range' i (n - i) = [i] ++ List.range' (i + 1) (n - i - 1) := by
      rw [show n - i = (n - i - 1) + 1 by omega, List.range'_succ]
      simp
    rw [h1, h2]
  rw [e]
  simp
theorem tabG_at {α : Type} {k : Nat} (g : α → List Value) (hg : ∀ x, (g x).length = k) (n : Nat) (f : Nat → α) (i : Nat) (hi : i < n) : ((tabG g n f).drop (i * k)).take k = g (f i) := by
  obtain ⟨a, b, e, h, _, _⟩ := tabG_split g hg n f i hi
  rw [e, ← h, List.append_assoc, List.drop_left, ← hg (f i), List.take_left]
/-- A row of k cells is laid anew. -/
def stO (k : Nat) (B B' : List Value) (i : Nat) (r : List Value) : Prop := i * k + k ≤ B.length ∧ B' = B.take (i * k) ++ r ++ B.drop (i * k + k)
theorem tabG_set {α : Type} {k : Nat} (g : α → List Value) (hg : ∀ x, (g x).length = k) (n : Nat) (f f' : Nat → α) (i : Nat) (hi : i < n) (x : α) (h1 : f' i = x) (h2 : ∀ j, j < n → j ≠ i → f' j = f j) : stO k (tabG g n f) (tabG g n f') i (g x) := by
  refine ⟨by rw [tabG_len g hg]; have := Nat.mul_le_mul_right k (show i + 1 ≤ n from hi); rw [Nat.add_mul] at this; omega, ?_⟩
  obtain ⟨a, b, e, h, ha, hb⟩ := tabG_split g hg n f i hi
  obtain ⟨a', b', e', h', ha', hb'⟩ := tabG_split g hg n f' i hi
  have e1 : a' = a := by rw [ha, ha']; exact tabG_congr g i _ _ (fun j hj => h2 j (by omega) (by omega))
  have e2 : b' = b := by
    rw [hb, hb']
    congr 1
    exact List.map_congr_left (fun j hj => by have := List.mem_range'_1.1 hj; exact h2 j (by omega) (by omega))
  have t1 : (a ++ g (f i) ++ b).take (i * k) = a := by rw [← h, List.append_assoc, List.take_left]
  have t2 : (a ++ g (f i) ++ b).drop (i * k + k) = b := by rw [show i * k + k = (a ++ g (f i)).length by rw [List.length_append, hg, h], List.drop_left]
  rw [e, e', e1, e2, h1, t1, t2]
theorem stO_cond {k : Nat} {B B' : List Value} {i : Nat} {p : List Ch} (h : stO k B B' i (flat p)) (hp : sizes p = k) : (i * k) + sizes p ≤ (flat [.l B]).length ∧ flat [.l B'] = (flat [.l B]).take (i * k) ++ flat p ++ (flat [.l B]).drop ((i * k) + sizes p) := by
  rw [flat_l, flat_l, hp]
  exact h
/-- A place. -/
def plV (p : Nat × Nat) : List Value := [.int .i64 ((p.1 : Nat) : Int), .int .i64 ((p.2 : Nat) : Int)]
theorem plV_len (p : Nat × Nat) : (plV p).length = 2 := rfl
def pl (n q : Nat) : Nat × Nat := (q % n, q / n)
theorem pl_of_wi {n w i : Nat} (h : i < n) : pl n (w * n + i) = (i, w) := by unfold pl; rw [(pl_div h).1, (pl_div h).2]
/-- Row w when the places ahead of Q have been seen. -/
def rowQ (F : Nat → Int) (n Q w : Nat) : List Value := tabG plV n (fun i => pl n (valI F Q (w * n + i)))
theorem rowQ_zero (F : Nat → Int) (n w : Nat) : rowQ F n 0 w = tabG plV n (fun i => (i, w)) := tabG_congr _ _ _ _ (fun i hi => by rw [valI_zero, pl_of_wi hi])
def kI (a : Int) : Value := .int .i64 a
def vI (p : Nat × Nat) : Value := .agg #[.int .i64 ((p.1 : Nat) : Int), .int .i64 ((p.2 : Nat) : Int)]
/-- What the maps hold. -/
structure MapsOK (F : Nat → Int) (n Q : Nat) (l1 l2 : List (Int × (Nat × Nat))) : Prop where
  d1 : DistL l1
  d2 : DistL l2
  m1 : ∀ v, 0 ≤ v → lookM l1 v = (firstI F Q v).map (pl n)
  m2 : ∀ v, 0 ≤ v → lookM l2 v = (lastI F Q v).map (pl n)
theorem mapsOK_zero (F : Nat → Int) (n : Nat) : MapsOK F n 0 [] [] := ⟨by simp [DistL], by simp [DistL], fun v _ => rfl, fun v _ => rfl⟩
theorem mapsOK_neg {F : Nat → Int} {n Q : Nat} {l1 l2 : List (Int × (Nat × Nat))} (h : MapsOK F n Q l1 l2) (hq : F Q < 0) : MapsOK F n (Q + 1) l1 l2 := by
  refine ⟨h.d1, h.d2, fun v hv => ?_, fun v hv => ?_⟩
  · rw [h.m1 v hv]
    simp only [firstI]
    split
    · rename_i q e; rw [e]
    · rename_i e; rw [if_neg (by omega), e]
  · rw [h.m2 v hv]
    simp only [lastI]
    rw [if_neg (by omega)]
theorem mapsOK_new {F : Nat → Int} {n Q : Nat} {l1 l2 : List (Int × (Nat × Nat))} (h : MapsOK F n Q l1 l2) (hq : 0 ≤ F Q) (hn : lastI F Q (F Q) = none) : MapsOK F n (Q + 1) (putL l1 (F Q) (pl n Q)) (putL l2 (F Q) (pl n Q)) := by
  have hno := lastI_none hn
  refine ⟨putL_dist _ _ _ h.d1, putL_dist _ _ _ h.d2, fun v hv => ?_, fun v hv => ?_⟩
  · rw [lookM_put, h.m1 v hv]
    simp only [firstI]
    by_cases e : v = F Q
    · subst e
      rw [if_pos rfl, firstI_no hno, if_pos rfl]; rfl
    · rw [if_neg e]
      split
      · rename_i q e1; rw [e1]
      · rename_i e1; rw [if_neg (fun g => e g.symm), e1]
  · rw [lookM_put, h.m2 v hv]
    simp only [lastI]
    by_cases e : v = F Q
    · subst e
      rw [if_pos rfl, if_pos rfl]; rfl
    · rw [if_neg e, if_neg (fun g => e g.symm)]
theorem mapsOK_old {F : Nat → Int} {n Q : Nat} {l1 l2 : List (Int × (Nat × Nat))} (h : MapsOK F n Q l1 l2) (hq : 0 ≤ F Q) {fst : Nat} (hf : firstI F Q (F Q) = some fst) : MapsOK F n (Q + 1) l1 (putL l2 (F Q) (pl n Q)) := by
  refine ⟨h.d1, putL_dist _ _ _ h.d2, fun v hv => ?_, fun v hv => ?_⟩
  · rw [h.m1 v hv]
    simp only [firstI]
    by_cases e : v = F Q
    · subst e
      rw [hf]
    · split
      · rename_i q e1; rw [e1]
      · rename_i e1; rw [if_neg (fun g => e g.symm), e1]
  · rw [lookM_put, h.m2 v hv]
    simp only [lastI]
    by_cases e : v = F Q
    · subst e
      rw [if_pos rfl, if_pos rfl]; rfl
    · rw [if_neg e, if_neg (fun g => e g.symm)]
theorem first_of_last {F : Nat → Int} {Q : Nat} {v : Int} {o : Nat} (h : lastI F Q v = some o) : ∃ f, firstI F Q v = some f := by
  obtain ⟨h1, h2, _⟩ := lastI_some h
  cases e : firstI F Q v with
  | some f => exact ⟨f, rfl⟩
  | none => exact absurd h2 (firstI_some.firstI_none e o h1)
end Go.Proofs.Ytoigbjimhcgolaa
