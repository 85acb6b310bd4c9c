/- Pruned: GLsnx. -/
import Derived.Test.YtoigbjimhcgolaaQHb
import Derived.Test.YtoigbjimhcgolaaQGa
import Derived.Test.YtoigbjimhcgolaaQIa
import Derived.Test.YtoigbjimhcgolaaQIe
/- sigma.Same: told as a truth. -/
set_option linter.unusedSimpArgs false
set_option linter.unusedVariables false
namespace Go.Proofs.Ytoigbjimhcgolaa
open Go.Ev Go.RowKit
end Go.Proofs.Ytoigbjimhcgolaa

/- chirographlaw19.SigmaSame says true. -/
set_option linter.unusedSimpArgs false
set_option linter.unusedVariables false
namespace Go.Proofs.Ytoigbjimhcgolaa
open Go.Ev Go.RowKit
def eAl19 : Entry := entry0 8 [(none, .v (.bool true))]
theorem eAl19_ok : eAl19.OK Try.prog := entry0_ok (fun args w => Go.Proofs.enters_of (P := Try.prog) Try.func8 (by kernel_rfl) rfl args w) (only (fn_gives (P := Try.prog) (env := [eFSmallS]) ⟨eFSmallS_ok, trivial⟩ Try.func8 2 o0 (r := .v (.bool true)) (by kernel_rfl)
    (And.intro (show flat [.e (ofR (7 : Int).toNat)] = flat [.c (.int .u64 7), .c (.int .u64 0), .c (.int .u64 0), .c (.int .u64 0)] from by kernel_rfl) (And.intro (show (0 : Int) ≤ 7 ∧ (7 : Int) < 9223372036854775808 from by decide) trivial))))
def lenOK (L : Nat → List (Int × Int)) (M : Nat → List Nat) (w : Nat) : Prop := (L w).length = (L 0).length ∧ (M w).length = (L 0).length
instance (L : Nat → List (Int × Int)) (M : Nat → List Nat) (w : Nat) : Decidable (lenOK L M w) := by unfold lenOK; infer_instance
instance (L : Nat → List (Int × Int)) (M : Nat → List Nat) : DecidablePred (lenOK L M) := fun w => inferInstance
end Go.Proofs.Ytoigbjimhcgolaa

/- chirographlaw19.SigmaNext: what comes behind is as the document says; as a truth. -/
set_option linter.unusedSimpArgs false
set_option linter.unusedVariables false
namespace Go.Proofs.Ytoigbjimhcgolaa
open Go.Ev Go.RowKit
def snI (gs : List GT) (pub vars : Int) (lg n : Nat) (w z : Int) : LState := { n := 148, sl := [(2, .p 4 0), (6, .p 45 0), (7, .v (.int .i64 0)), (8, .p 54 0), (9, .v (.int .i64 0)), (11, .sx 64 n), (12, .v (.int .i64 (((n : Nat) : Int)))), (13, .v (.int .i64 (w))), (83, .v (.int .i64 (w))), (115, .v (.int .i64 (((n : Nat) : Int)))), (116, .v (.int .i64 (z)))], hp := [(4, .own [.sz 18 gs.length, .c (.int .i64 pub), .c (.int .i64 vars)] 24), (18, .rz [.l (gsC gs)]), (45, .own [.sx 39 n, .sx 40 n, .sx 41 n] 29), (39, .gr [.l (rowQ (vf gs n) n (3 * n) 0)] 44 2), (40, .gr [.l (rowQ (vf gs n) n (3 * n) 1)] 44 2), (41, .gr [.l (rowQ (vf gs n) n (3 * n) 2)] 44 2), (54, .own [.sx 48 n, .sx 49 n, .sx 50 n] 34), (48, .gr [.l (tab eC n (valP (vf gs n) lg n 0))] 41 4), (49, .gr [.l (tab eC n (valP (vf gs n) lg n 1))] 41 4), (50, .gr [.l (tab eC n (valP (vf gs n) lg n 2))] 41 4), (64, .gr [.l (tab eC n (npw (rt lg)))] 41 4)] }
def snE (gs : List GT) (pub vars : Int) (lg n : Nat) (w : Int) : LState := { n := 148, sl := [(2, .p 4 0), (6, .p 45 0), (7, .v (.int .i64 0)), (8, .p 54 0), (9, .v (.int .i64 0)), (11, .sx 64 n), (12, .v (.int .i64 (((n : Nat) : Int)))), (83, .v (.int .i64 (w)))], hp := [(4, .own [.sz 18 gs.length, .c (.int .i64 pub), .c (.int .i64 vars)] 24), (18, .rz [.l (gsC gs)]), (45, .own [.sx 39 n, .sx 40 n, .sx 41 n] 29), (39, .gr [.l (rowQ (vf gs n) n (3 * n) 0)] 44 2), (40, .gr [.l (rowQ (vf gs n) n (3 * n) 1)] 44 2), (41, .gr [.l (rowQ (vf gs n) n (3 * n) 2)] 44 2), (54, .own [.sx 48 n, .sx 49 n, .sx 50 n] 34), (48, .gr [.l (tab eC n (valP (vf gs n) lg n 0))] 41 4), (49, .gr [.l (tab eC n (valP (vf gs n) lg n 1))] 41 4), (50, .gr [.l (tab eC n (valP (vf gs n) lg n 2))] 41 4), (64, .gr [.l (tab eC n (npw (rt lg)))] 41 4)] }
theorem sn_r0 (gs : List GT) (pub vars : Int) (lg n : Nat) (hn : n ≤ 1000) (i : Nat) (hi : i < n) (ro q : Nat) (hro : ro < n) (hq : q < 3) (x : Fin Rr) (hB : GivesE Try.prog 15 [.ags [.z [.l (gsC gs)] gs.length, .c (.c (.int .i64 pub)), .c (.c (.int .i64 vars))], .t (.v (.int .i64 (((n : Nat) : Int)))), .t (.ag [.c (.int .i64 ((i : Nat) : Int)), .c (.int .i64 0)])] (.ag [.c (.int .i64 ((ro : Nat) : Int)), .c (.int .i64 ((q : Nat) : Int))])) (hN : GivesE Try.prog 16 [.rx [.l (tab eC n (npw (rt lg)))] n, .t (.ag [.c (.int .i64 ((ro : Nat) : Int)), .c (.int .i64 ((q : Nat) : Int))])] (.ag [.e x])) (hp : ((rowQ (vf gs n) n (3 * n) 0).drop (i * 2)).take 2 = flat [.c (.int .i64 ((ro : Nat) : Int)), .c (.int .i64 ((q : Nat) : Int))]) (hv : ((tab eC n (valP (vf gs n) lg n 0)).drop (i * 4)).take 4 = flat [.e x]) : Sound Try.prog 0 false (loopB Try.f3 1) (snI gs pub vars lg n 0 ((i : Nat) : Int)).aa .normal (snI gs pub vars lg n 0 ((i + 1 : Nat) : Int)).aa := by
  have hh := roundK_sound (P := Try.prog) (X := rulesM _) (env := [eAs 15 [([.ags [.z [.l (gsC gs)] gs.length, .c (.c (.int .i64 pub)), .c (.c (.int .i64 vars))], .t (.v (.int .i64 (((n : Nat) : Int)))), .t (.ag [.c (.int .i64 ((i : Nat) : Int)), .c (.int .i64 0)])], .ag [.c (.int .i64 ((ro : Nat) : Int)), .c (.int .i64 ((q : Nat) : Int))])], eAs 16 [([.rx [.l (tab eC n (npw (rt lg)))] n, .t (.ag [.c (.int .i64 ((ro : Nat) : Int)), .c (.int .i64 ((q : Nat) : Int))])], .ag [.e x])]]) ⟨eAs_one hB, eAs_one hN, trivial⟩ (n := 0) (os := (oL [(200, wT), (215, rO 9 i), (216, { ch := 0, hi := fun _ => 0, ru := 8, cs := fun _ => [.c (.int .i64 ((ro : Nat) : Int)), .c (.int .i64 ((q : Nat) : Int))] }), (218, eqO 0), (224, rO 9 i), (225, { ch := 0, hi := fun _ => 0, ru := 8, cs := fun _ => [.e x] }), (229, wO 0)])) (fb := 0) (rd := false) (c := (loopB Try.f3 1)) (k := 200) (I := snI gs pub vars lg n 0 ((i : Nat) : Int)) (sk := [2, 6, 7, 8, 9, 11, 12, 13, 83, 115, 116]) (hk := [4, 18, 45, 39, 40, 41, 54, 48, 49, 50, 64]) (lk := []) (ex := .normal)
    (L := snI gs pub vars lg n 0 (IntKind.i64.wrap (((i : Nat) : Int) + 1))) (by kernel_rfl)
    (And.intro (show flat [Ch.e x] = flat [Ch.e x] from rfl)
    (And.intro (show ([.rx [.l (tab eC n (npw (rt lg)))] n, .t (.ag [.c (.int .i64 ((ro : Nat) : Int)), .c (.int .i64 ((q : Nat) : Int))])] : List XV) = [.rx [.l (tab eC n (npw (rt lg)))] n, .t (.ag [.c (.int .i64 ((ro : Nat) : Int)), .c (.int .i64 ((q : Nat) : Int))])] from rfl)
    (And.intro (ldO (p := [.e x]) hv rfl)
    (And.intro (show ((i : Nat) : Int) = ((i : Nat) : Int) ∧ i < n from ⟨rfl, hi⟩)
    (And.intro (show Fit (flat [.c (.int .i64 ((ro : Nat) : Int)), .c (.int .i64 ((q : Nat) : Int))]) [K.i .i64, K.i .i64] ∧ Fit (flat [.c (.int .i64 ((ro : Nat) : Int)), .c (.int .i64 ((q : Nat) : Int))]) [K.i .i64, K.i .i64] ∧ flat [.c (.int .i64 ((ro : Nat) : Int)), .c (.int .i64 ((q : Nat) : Int))] = flat [.c (.int .i64 ((ro : Nat) : Int)), .c (.int .i64 ((q : Nat) : Int))] from ⟨plK_fit (by omega) (by omega), plK_fit (by omega) (by omega), rfl⟩)
    (And.intro (ldO (p := [.c (.int .i64 ((ro : Nat) : Int)), .c (.int .i64 ((q : Nat) : Int))]) hp rfl)
    (And.intro (show ((i : Nat) : Int) = ((i : Nat) : Int) ∧ i < n from ⟨rfl, hi⟩)
    (And.intro (show ([.ags [.z [.l (gsC gs)] gs.length, .c (.c (.int .i64 pub)), .c (.c (.int .i64 vars))], .t (.v (.int .i64 (((n : Nat) : Int)))), .t (.ag [.c (.int .i64 ((i : Nat) : Int)), .c (.int .i64 0)])] : List XV) = [.ags [.z [.l (gsC gs)] gs.length, .c (.c (.int .i64 pub)), .c (.c (.int .i64 vars))], .t (.v (.int .i64 (((n : Nat) : Int)))), .t (.ag [.c (.int .i64 ((i : Nat) : Int)), .c (.int .i64 0)])] from rfl)
    (And.intro (show decide (((i : Nat) : Int) < ((n : Nat) : Int)) = true from decide_eq_true (by omega)) trivial)))))))))
  rw [r_next (by omega)] at hh
  exact hh
theorem sn_e0 (gs : List GT) (pub vars : Int) (lg n : Nat) : Sound Try.prog 0 false (loopB Try.f3 1) (snI gs pub vars lg n 0 ((n : Nat) : Int)).aa (.exit 2) (snE gs pub vars lg n 0).aa := by
  have hh := roundK_sound (P := Try.prog) (X := rulesM _) (env := []) trivial (n := 0) (os := (oL [(200, wF)])) (fb := 0) (rd := false) (c := (loopB Try.f3 1)) (k := 200) (I := snI gs pub vars lg n 0 ((n : Nat) : Int)) (sk := [2, 6, 7, 8, 9, 11, 12, 83]) (hk := [4, 18, 45, 39, 40, 41, 54, 48, 49, 50, 64]) (lk := []) (ex := (.exit 2))
    (L := snE gs pub vars lg n 0) (by kernel_rfl)
    (And.intro (show decide (((n : Nat) : Int) < ((n : Nat) : Int)) = false from decide_eq_false (by omega)) trivial)
  exact hh
theorem sn_a0 (gs : List GT) (pub vars : Int) (lg n : Nat) (hn : n ≤ 1000) : Sound Try.prog 0 false (.loop (loopB Try.f3 1)) (snI gs pub vars lg n 0 0).aa (.exit 2) (snE gs pub vars lg n 0).aa := by
  refine loop_ok (m := fun y : { i : Nat // i ≤ n } => n - y.val) (fun y => snI gs pub vars lg n 0 (y.val : Int)) (by simp) (fun y => ?_) ⟨0, by omega⟩
  obtain ⟨i, hi⟩ := y
  by_cases e : i < n
  · refine .inl ⟨⟨i + 1, e⟩, by show n - (i + 1) < n - i; omega, ?_⟩
    have hq := valI_lt (f := vf gs n) (N := 3 * n) (q := 0 * n + i) (by omega)
    obtain ⟨h1, h2⟩ := pl_lt3 hq
    exact sn_r0 gs pub vars lg n hn i e _ _ h2 h1 _ (behind_e gs pub vars n hn i 0 e (by decide)) (number_e n (npw (rt lg)) _ _ h2 h1) (tabG_at plV plV_len n _ i e) (tab_at eC eC_len n _ i e)
  · have e : i = n := by omega
    subst e
    exact .inr (sn_e0 gs pub vars lg i)
theorem sn_r1 (gs : List GT) (pub vars : Int) (lg n : Nat) (hn : n ≤ 1000) (i : Nat) (hi : i < n) (ro q : Nat) (hro : ro < n) (hq : q < 3) (x : Fin Rr) (hB : GivesE Try.prog 15 [.ags [.z [.l (gsC gs)] gs.length, .c (.c (.int .i64 pub)), .c (.c (.int .i64 vars))], .t (.v (.int .i64 (((n : Nat) : Int)))), .t (.ag [.c (.int .i64 ((i : Nat) : Int)), .c (.int .i64 1)])] (.ag [.c (.int .i64 ((ro : Nat) : Int)), .c (.int .i64 ((q : Nat) : Int))])) (hN : GivesE Try.prog 16 [.rx [.l (tab eC n (npw (rt lg)))] n, .t (.ag [.c (.int .i64 ((ro : Nat) : Int)), .c (.int .i64 ((q : Nat) : Int))])] (.ag [.e x])) (hp : ((rowQ (vf gs n) n (3 * n) 1).drop (i * 2)).take 2 = flat [.c (.int .i64 ((ro : Nat) : Int)), .c (.int .i64 ((q : Nat) : Int))]) (hv : ((tab eC n (valP (vf gs n) lg n 1)).drop (i * 4)).take 4 = flat [.e x]) : Sound Try.prog 0 false (loopB Try.f3 1) (snI gs pub vars lg n 1 ((i : Nat) : Int)).aa .normal (snI gs pub vars lg n 1 ((i + 1 : Nat) : Int)).aa := by
  have hh := roundK_sound (P := Try.prog) (X := rulesM _) (env := [eAs 15 [([.ags [.z [.l (gsC gs)] gs.length, .c (.c (.int .i64 pub)), .c (.c (.int .i64 vars))], .t (.v (.int .i64 (((n : Nat) : Int)))), .t (.ag [.c (.int .i64 ((i : Nat) : Int)), .c (.int .i64 1)])], .ag [.c (.int .i64 ((ro : Nat) : Int)), .c (.int .i64 ((q : Nat) : Int))])], eAs 16 [([.rx [.l (tab eC n (npw (rt lg)))] n, .t (.ag [.c (.int .i64 ((ro : Nat) : Int)), .c (.int .i64 ((q : Nat) : Int))])], .ag [.e x])]]) ⟨eAs_one hB, eAs_one hN, trivial⟩ (n := 0) (os := (oL [(200, wT), (215, rO 9 i), (216, { ch := 0, hi := fun _ => 0, ru := 8, cs := fun _ => [.c (.int .i64 ((ro : Nat) : Int)), .c (.int .i64 ((q : Nat) : Int))] }), (218, eqO 0), (224, rO 9 i), (225, { ch := 0, hi := fun _ => 0, ru := 8, cs := fun _ => [.e x] }), (229, wO 0)])) (fb := 0) (rd := false) (c := (loopB Try.f3 1)) (k := 200) (I := snI gs pub vars lg n 1 ((i : Nat) : Int)) (sk := [2, 6, 7, 8, 9, 11, 12, 13, 83, 115, 116]) (hk := [4, 18, 45, 39, 40, 41, 54, 48, 49, 50, 64]) (lk := []) (ex := .normal)
    (L := snI gs pub vars lg n 1 (IntKind.i64.wrap (((i : Nat) : Int) + 1))) (by kernel_rfl)
    (And.intro (show flat [Ch.e x] = flat [Ch.e x] from rfl)
    (And.intro (show ([.rx [.l (tab eC n (npw (rt lg)))] n, .t (.ag [.c (.int .i64 ((ro : Nat) : Int)), .c (.int .i64 ((q : Nat) : Int))])] : List XV) = [.rx [.l (tab eC n (npw (rt lg)))] n, .t (.ag [.c (.int .i64 ((ro : Nat) : Int)), .c (.int .i64 ((q : Nat) : Int))])] from rfl)
    (And.intro (ldO (p := [.e x]) hv rfl)
    (And.intro (show ((i : Nat) : Int) = ((i : Nat) : Int) ∧ i < n from ⟨rfl, hi⟩)
    (And.intro (show Fit (flat [.c (.int .i64 ((ro : Nat) : Int)), .c (.int .i64 ((q : Nat) : Int))]) [K.i .i64, K.i .i64] ∧ Fit (flat [.c (.int .i64 ((ro : Nat) : Int)), .c (.int .i64 ((q : Nat) : Int))]) [K.i .i64, K.i .i64] ∧ flat [.c (.int .i64 ((ro : Nat) : Int)), .c (.int .i64 ((q : Nat) : Int))] = flat [.c (.int .i64 ((ro : Nat) : Int)), .c (.int .i64 ((q : Nat) : Int))] from ⟨plK_fit (by omega) (by omega), plK_fit (by omega) (by omega), rfl⟩)
    (And.intro (ldO (p := [.c (.int .i64 ((ro : Nat) : Int)), .c (.int .i64 ((q : Nat) : Int))]) hp rfl)
    (And.intro (show ((i : Nat) : Int) = ((i : Nat) : Int) ∧ i < n from ⟨rfl, hi⟩)
    (And.intro (show ([.ags [.z [.l (gsC gs)] gs.length, .c (.c (.int .i64 pub)), .c (.c (.int .i64 vars))], .t (.v (.int .i64 (((n : Nat) : Int)))), .t (.ag [.c (.int .i64 ((i : Nat) : Int)), .c (.int .i64 1)])] : List XV) = [.ags [.z [.l (gsC gs)] gs.length, .c (.c (.int .i64 pub)), .c (.c (.int .i64 vars))], .t (.v (.int .i64 (((n : Nat) : Int)))), .t (.ag [.c (.int .i64 ((i : Nat) : Int)), .c (.int .i64 1)])] from rfl)
    (And.intro (show decide (((i : Nat) : Int) < ((n : Nat) : Int)) = true from decide_eq_true (by omega)) trivial)))))))))
  rw [r_next (by omega)] at hh
  exact hh
theorem sn_e1 (gs : List GT) (pub vars : Int) (lg n : Nat) : Sound Try.prog 0 false (loopB Try.f3 1) (snI gs pub vars lg n 1 ((n : Nat) : Int)).aa (.exit 2) (snE gs pub vars lg n 1).aa := by
  have hh := roundK_sound (P := Try.prog) (X := rulesM _) (env := []) trivial (n := 0) (os := (oL [(200, wF)])) (fb := 0) (rd := false) (c := (loopB Try.f3 1)) (k := 200) (I := snI gs pub vars lg n 1 ((n : Nat) : Int)) (sk := [2, 6, 7, 8, 9, 11, 12, 83]) (hk := [4, 18, 45, 39, 40, 41, 54, 48, 49, 50, 64]) (lk := []) (ex := (.exit 2))
    (L := snE gs pub vars lg n 1) (by kernel_rfl)
    (And.intro (show decide (((n : Nat) : Int) < ((n : Nat) : Int)) = false from decide_eq_false (by omega)) trivial)
  exact hh
theorem sn_a1 (gs : List GT) (pub vars : Int) (lg n : Nat) (hn : n ≤ 1000) : Sound Try.prog 0 false (.loop (loopB Try.f3 1)) (snI gs pub vars lg n 1 0).aa (.exit 2) (snE gs pub vars lg n 1).aa := by
  refine loop_ok (m := fun y : { i : Nat // i ≤ n } => n - y.val) (fun y => snI gs pub vars lg n 1 (y.val : Int)) (by simp) (fun y => ?_) ⟨0, by omega⟩
  obtain ⟨i, hi⟩ := y
  by_cases e : i < n
  · refine .inl ⟨⟨i + 1, e⟩, by show n - (i + 1) < n - i; omega, ?_⟩
    have hq := valI_lt (f := vf gs n) (N := 3 * n) (q := 1 * n + i) (by omega)
    obtain ⟨h1, h2⟩ := pl_lt3 hq
    exact sn_r1 gs pub vars lg n hn i e _ _ h2 h1 _ (behind_e gs pub vars n hn i 1 e (by decide)) (number_e n (npw (rt lg)) _ _ h2 h1) (tabG_at plV plV_len n _ i e) (tab_at eC eC_len n _ i e)
  · have e : i = n := by omega
    subst e
    exact .inr (sn_e1 gs pub vars lg i)
theorem sn_r2 (gs : List GT) (pub vars : Int) (lg n : Nat) (hn : n ≤ 1000) (i : Nat) (hi : i < n) (ro q : Nat) (hro : ro < n) (hq : q < 3) (x : Fin Rr) (hB : GivesE Try.prog 15 [.ags [.z [.l (gsC gs)] gs.length, .c (.c (.int .i64 pub)), .c (.c (.int .i64 vars))], .t (.v (.int .i64 (((n : Nat) : Int)))), .t (.ag [.c (.int .i64 ((i : Nat) : Int)), .c (.int .i64 2)])] (.ag [.c (.int .i64 ((ro : Nat) : Int)), .c (.int .i64 ((q : Nat) : Int))])) (hN : GivesE Try.prog 16 [.rx [.l (tab eC n (npw (rt lg)))] n, .t (.ag [.c (.int .i64 ((ro : Nat) : Int)), .c (.int .i64 ((q : Nat) : Int))])] (.ag [.e x])) (hp : ((rowQ (vf gs n) n (3 * n) 2).drop (i * 2)).take 2 = flat [.c (.int .i64 ((ro : Nat) : Int)), .c (.int .i64 ((q : Nat) : Int))]) (hv : ((tab eC n (valP (vf gs n) lg n 2)).drop (i * 4)).take 4 = flat [.e x]) : Sound Try.prog 0 false (loopB Try.f3 1) (snI gs pub vars lg n 2 ((i : Nat) : Int)).aa .normal (snI gs pub vars lg n 2 ((i + 1 : Nat) : Int)).aa := by
  have hh := roundK_sound (P := Try.prog) (X := rulesM _) (env := [eAs 15 [([.ags [.z [.l (gsC gs)] gs.length, .c (.c (.int .i64 pub)), .c (.c (.int .i64 vars))], .t (.v (.int .i64 (((n : Nat) : Int)))), .t (.ag [.c (.int .i64 ((i : Nat) : Int)), .c (.int .i64 2)])], .ag [.c (.int .i64 ((ro : Nat) : Int)), .c (.int .i64 ((q : Nat) : Int))])], eAs 16 [([.rx [.l (tab eC n (npw (rt lg)))] n, .t (.ag [.c (.int .i64 ((ro : Nat) : Int)), .c (.int .i64 ((q : Nat) : Int))])], .ag [.e x])]]) ⟨eAs_one hB, eAs_one hN, trivial⟩ (n := 0) (os := (oL [(200, wT), (215, rO 9 i), (216, { ch := 0, hi := fun _ => 0, ru := 8, cs := fun _ => [.c (.int .i64 ((ro : Nat) : Int)), .c (.int .i64 ((q : Nat) : Int))] }), (218, eqO 0), (224, rO 9 i), (225, { ch := 0, hi := fun _ => 0, ru := 8, cs := fun _ => [.e x] }), (229, wO 0)])) (fb := 0) (rd := false) (c := (loopB Try.f3 1)) (k := 200) (I := snI gs pub vars lg n 2 ((i : Nat) : Int)) (sk := [2, 6, 7, 8, 9, 11, 12, 13, 83, 115, 116]) (hk := [4, 18, 45, 39, 40, 41, 54, 48, 49, 50, 64]) (lk := []) (ex := .normal)
    (L := snI gs pub vars lg n 2 (IntKind.i64.wrap (((i : Nat) : Int) + 1))) (by kernel_rfl)
    (And.intro (show flat [Ch.e x] = flat [Ch.e x] from rfl)
    (And.intro (show ([.rx [.l (tab eC n (npw (rt lg)))] n, .t (.ag [.c (.int .i64 ((ro : Nat) : Int)), .c (.int .i64 ((q : Nat) : Int))])] : List XV) = [.rx [.l (tab eC n (npw (rt lg)))] n, .t (.ag [.c (.int .i64 ((ro : Nat) : Int)), .c (.int .i64 ((q : Nat) : Int))])] from rfl)
    (And.intro (ldO (p := [.e x]) hv rfl)
    (And.intro (show ((i : Nat) : Int) = ((i : Nat) : Int) ∧ i < n from ⟨rfl, hi⟩)
    (And.intro (show Fit (flat [.c (.int .i64 ((ro : Nat) : Int)), .c (.int .i64 ((q : Nat) : Int))]) [K.i .i64, K.i .i64] ∧ Fit (flat [.c (.int .i64 ((ro : Nat) : Int)), .c (.int .i64 ((q : Nat) : Int))]) [K.i .i64, K.i .i64] ∧ flat [.c (.int .i64 ((ro : Nat) : Int)), .c (.int .i64 ((q : Nat) : Int))] = flat [.c (.int .i64 ((ro : Nat) : Int)), .c (.int .i64 ((q : Nat) : Int))] from ⟨plK_fit (by omega) (by omega), plK_fit (by omega) (by omega), rfl⟩)
    (And.intro (ldO (p := [.c (.int .i64 ((ro : Nat) : Int)), .c (.int .i64 ((q : Nat) : Int))]) hp rfl)
    (And.intro (show ((i : Nat) : Int) = ((i : Nat) : Int) ∧ i < n from ⟨rfl, hi⟩)
    (And.intro (show ([.ags [.z [.l (gsC gs)] gs.length, .c (.c (.int .i64 pub)), .c (.c (.int .i64 vars))], .t (.v (.int .i64 (((n : Nat) : Int)))), .t (.ag [.c (.int .i64 ((i : Nat) : Int)), .c (.int .i64 2)])] : List XV) = [.ags [.z [.l (gsC gs)] gs.length, .c (.c (.int .i64 pub)), .c (.c (.int .i64 vars))], .t (.v (.int .i64 (((n : Nat) : Int)))), .t (.ag [.c (.int .i64 ((i : Nat) : Int)), .c (.int .i64 2)])] from rfl)
    (And.intro (show decide (((i : Nat) : Int) < ((n : Nat) : Int)) = true from decide_eq_true (by omega)) trivial)))))))))
  rw [r_next (by omega)] at hh
  exact hh
theorem sn_e2 (gs : List GT) (pub vars : Int) (lg n : Nat) : Sound Try.prog 0 false (loopB Try.f3 1) (snI gs pub vars lg n 2 ((n : Nat) : Int)).aa (.exit 2) (snE gs pub vars lg n 2).aa := by
  have hh := roundK_sound (P := Try.prog) (X := rulesM _) (env := []) trivial (n := 0) (os := (oL [(200, wF)])) (fb := 0) (rd := false) (c := (loopB Try.f3 1)) (k := 200) (I := snI gs pub vars lg n 2 ((n : Nat) : Int)) (sk := [2, 6, 7, 8, 9, 11, 12, 83]) (hk := [4, 18, 45, 39, 40, 41, 54, 48, 49, 50, 64]) (lk := []) (ex := (.exit 2))
    (L := snE gs pub vars lg n 2) (by kernel_rfl)
    (And.intro (show decide (((n : Nat) : Int) < ((n : Nat) : Int)) = false from decide_eq_false (by omega)) trivial)
  exact hh
theorem sn_a2 (gs : List GT) (pub vars : Int) (lg n : Nat) (hn : n ≤ 1000) : Sound Try.prog 0 false (.loop (loopB Try.f3 1)) (snI gs pub vars lg n 2 0).aa (.exit 2) (snE gs pub vars lg n 2).aa := by
  refine loop_ok (m := fun y : { i : Nat // i ≤ n } => n - y.val) (fun y => snI gs pub vars lg n 2 (y.val : Int)) (by simp) (fun y => ?_) ⟨0, by omega⟩
  obtain ⟨i, hi⟩ := y
  by_cases e : i < n
  · refine .inl ⟨⟨i + 1, e⟩, by show n - (i + 1) < n - i; omega, ?_⟩
    have hq := valI_lt (f := vf gs n) (N := 3 * n) (q := 2 * n + i) (by omega)
    obtain ⟨h1, h2⟩ := pl_lt3 hq
    exact sn_r2 gs pub vars lg n hn i e _ _ h2 h1 _ (behind_e gs pub vars n hn i 2 e (by decide)) (number_e n (npw (rt lg)) _ _ h2 h1) (tabG_at plV plV_len n _ i e) (tab_at eC eC_len n _ i e)
  · have e : i = n := by omega
    subst e
    exact .inr (sn_e2 gs pub vars lg i)
theorem len30 {g0 gs : List GT} (h : gs = g0.take 30) : gs.length ≤ 30 := by subst h; rw [List.length_take]; omega
theorem sn_big (g0 gs : List GT) (h30 : gs = g0.take 30) (pub vars : Int) (log : Int) (hc : ckE gs pub vars log = 0) (h5 : ¬ log ≤ 5) : Gives Try.prog 3 [.ags [.z [.l (gsC g0)] g0.length, .c (.c (.int .i64 pub)), .c (.c (.int .i64 vars))], .t (.v (.int .i64 log))] (.v (.bool true)) :=
  fn_gives_at (P := Try.prog) (X := rulesM _) (env := [eAs 11 [([.ags [.z [.l (gsC gs)] gs.length, .c (.c (.int .i64 pub)), .c (.c (.int .i64 vars))], .t (.v (.int .i64 log))], .v (.int .i64 0))], eAl19]) ⟨eAs_one (by have h := rk_e gs pub vars (by have := len30 h30; omega) log; rw [hc] at h; exact h), eAl19_ok, trivial⟩ Try.func3 1 (oL [(18, { ch := 0, hi := fun _ => gs.length, ex := 6, cs := fun _ => [.l (gsC gs)] }), (28, wF)]) (by kernel_rfl) ⟨_, rfl⟩
    (And.intro (show decide (log ≤ 5) = false from decide_eq_false h5)
    (And.intro (show ([.ags [.z [.l (gsC gs)] gs.length, .c (.c (.int .i64 pub)), .c (.c (.int .i64 vars))], .t (.v (.int .i64 log))] : List XV) = [.ags [.z [.l (gsC gs)] gs.length, .c (.c (.int .i64 pub)), .c (.c (.int .i64 vars))], .t (.v (.int .i64 log))] from rfl)
    (And.intro (cut30 g0 gs h30) trivial)))
theorem sn_err (g0 gs : List GT) (h30 : gs = g0.take 30) (pub vars : Int) (log e : Int) (hc : ckE gs pub vars log = e) (h0 : e ≠ 0) : Gives Try.prog 3 [.ags [.z [.l (gsC g0)] g0.length, .c (.c (.int .i64 pub)), .c (.c (.int .i64 vars))], .t (.v (.int .i64 log))] (.v (.bool true)) :=
  fn_gives_at (P := Try.prog) (X := rulesM _) (env := [eAs 11 [([.ags [.z [.l (gsC gs)] gs.length, .c (.c (.int .i64 pub)), .c (.c (.int .i64 vars))], .t (.v (.int .i64 log))], .v (.int .i64 e))], eAl19]) ⟨eAs_one (by have h := rk_e gs pub vars (by have := len30 h30; omega) log; rw [hc] at h; exact h), eAl19_ok, trivial⟩ Try.func3 1 (oL [(18, { ch := 0, hi := fun _ => gs.length, ex := 6, cs := fun _ => [.l (gsC gs)] }), (25, wT), (41, { ch := 0, hi := fun _ => 0, ex := 7, av := fun _ => .tp [.ag [.c (.slice none 0 0), .c (.slice none 0 0), .c (.slice none 0 0)], .v (.int .i64 e)] }), (50, { ch := 0, hi := fun _ => 0, ex := 7, av := fun _ => .tp [.ag [.c (.slice none 0 0), .c (.slice none 0 0), .c (.slice none 0 0)], .v (.int .i64 e)] }), (62, wT), (67, wT), (72, wT)]) (by kernel_rfl) ⟨_, rfl⟩
    (And.intro (show (e == e) = true from beq_self_eq_true e)
    (And.intro (show (e == e) = true from beq_self_eq_true e)
    (And.intro (show (e != 0) = true from by simpa using h0)
    (And.intro (show ([.ags [.z [.l (gsC gs)] gs.length, .c (.c (.int .i64 pub)), .c (.c (.int .i64 vars))], .t (.v (.int .i64 log))] : List XV) = [.ags [.z [.l (gsC gs)] gs.length, .c (.c (.int .i64 pub)), .c (.c (.int .i64 vars))], .t (.v (.int .i64 log))] from rfl)
    (And.intro (values_e gs pub vars log (by have := len30 h30; omega) e hc h0)
    (And.intro (next_e gs pub vars log (by have := len30 h30; omega) e hc h0)
    (And.intro (show (e != 0) = true from by simpa using h0)
    (And.intro (show ([.ags [.z [.l (gsC gs)] gs.length, .c (.c (.int .i64 pub)), .c (.c (.int .i64 vars))], .t (.v (.int .i64 log))] : List XV) = [.ags [.z [.l (gsC gs)] gs.length, .c (.c (.int .i64 pub)), .c (.c (.int .i64 vars))], .t (.v (.int .i64 log))] from rfl)
    (And.intro (cut30 g0 gs h30) trivial)))))))))
theorem ne_selfI (n : Nat) : (((n : Nat) : Int) != ((n : Nat) : Int)) = false := by simp
theorem sn_main (g0 gs : List GT) (h30 : gs = g0.take 30) (pub vars : Int) (lg : Nat) (hl : lg ≤ 5) (n : Nat) (hn : n = 2 ^ lg) (h32 : n ≤ 1000) (h0 : 0 < n) (hm : gs.length ≤ 1000) (hln : gs.length ≤ n) (hck : ckE gs pub vars ((lg : Nat) : Int) = 0) (hrk : GivesE Try.prog 11 [.ags [.z [.l (gsC gs)] gs.length, .c (.c (.int .i64 pub)), .c (.c (.int .i64 vars))], .t (.v (.int .i64 ((lg : Nat) : Int)))] (.v (.int .i64 0))) : Gives Try.prog 3 [.ags [.z [.l (gsC g0)] g0.length, .c (.c (.int .i64 pub)), .c (.c (.int .i64 vars))], .t (.v (.int .i64 ((lg : Nat) : Int)))] (.v (.bool true)) :=
  fn_gives_at (P := Try.prog) (X := rulesM _) (env := [eAs 11 [([.ags [.z [.l (gsC gs)] gs.length, .c (.c (.int .i64 pub)), .c (.c (.int .i64 vars))], .t (.v (.int .i64 ((lg : Nat) : Int)))], .v (.int .i64 0))], eAl19, eAs 13 [([.t (.v (.int .i64 0))], .ag [.e (shf 0)]), ([.t (.v (.int .i64 1))], .ag [.e (shf 1)]), ([.t (.v (.int .i64 2))], .ag [.e (shf 2)])], eAs 14 [([.t (.v (.int .i64 0))], .ag [.e (shf 0)]), ([.t (.v (.int .i64 1))], .ag [.e (shf 1)]), ([.t (.v (.int .i64 2))], .ag [.e (shf 2)])]]) ⟨eAs_one hrk, eAl19_ok, eAs_three shift_0 shift_1 shift_2, eAs_three rshift_0 rshift_1 rshift_2, trivial⟩ Try.func3 1 (oL [(18, { ch := 0, hi := fun _ => gs.length, ex := 6, cs := fun _ => [.l (gsC gs)] }), (28, wT), (41, { ch := 0, hi := fun _ => 0, ex := 11, av := fun _ => .tp [.ag [.sx 39 n, .sx 40 n, .sx 41 n], .v (.int .i64 0)], lp := some { I := { n := 0, sl := [], hp := [] }, ex := .ret, E := { n := 0, sl := [], hp := [(39, .gr [.l (rowQ (vf gs n) n (3 * n) 0)] 44 2), (40, .gr [.l (rowQ (vf gs n) n (3 * n) 1)] 44 2), (41, .gr [.l (rowQ (vf gs n) n (3 * n) 2)] 44 2)] }, fr := 0 } }), (50, { ch := 0, hi := fun _ => 0, ex := 11, av := fun _ => .tp [.ag [.sx 48 n, .sx 49 n, .sx 50 n], .v (.int .i64 0)], lp := some { I := { n := 0, sl := [], hp := [] }, ex := .ret, E := { n := 0, sl := [], hp := [(48, .gr [.l (tab eC n (valP (vf gs n) lg n 0))] 41 4), (49, .gr [.l (tab eC n (valP (vf gs n) lg n 1))] 41 4), (50, .gr [.l (tab eC n (valP (vf gs n) lg n 2))] 41 4)] }, fr := 0 } }), (64, { ch := 0, hi := fun _ => 0, ex := 4, av := fun k => .sx k n, lp := some { I := { n := 0, sl := [], hp := [] }, ex := .ret, E := { n := 0, sl := [], hp := [(0, .gr [.l (tab eC n (npw (rt lg)))] 41 4)] }, fr := 0 } }), (85, wF), (93, wF), (97, wO 0), (99, wO 0), (100, wO 0), (104, lpO { I := snI gs pub vars lg n 0 0, ex := .exit 2, E := snE gs pub vars lg n 0, fr := 105 }), (122, wF), (130, wF), (134, wO 1), (136, wO 1), (137, wO 0), (141, lpO { I := snI gs pub vars lg n 1 0, ex := .exit 2, E := snE gs pub vars lg n 1, fr := 142 }), (159, wF), (167, wF), (171, wO 2), (173, wO 2), (174, wO 0), (178, lpO { I := snI gs pub vars lg n 2 0, ex := .exit 2, E := snE gs pub vars lg n 2, fr := 179 })]) (by kernel_rfl) ⟨_, rfl⟩
    (And.intro (show some (snI gs pub vars lg n 2 0) = some (snI gs pub vars lg n 2 0) from rfl)
    (And.intro (sn_a2 gs pub vars lg n h32)
    (And.intro (show flat [Ch.e (shf 2)] = flat [Ch.e (shf 2)] from rfl)
    (And.intro (show [XV.t (.v (.int .i64 2))] = [XV.t (.v (.int .i64 2))] from rfl)
    (And.intro (show [XV.t (.v (.int .i64 2))] = [XV.t (.v (.int .i64 2))] from rfl)
    (And.intro (ne_selfI n)
    (And.intro (ne_selfI n)
    (And.intro (show some (snI gs pub vars lg n 1 0) = some (snI gs pub vars lg n 1 0) from rfl)
    (And.intro (sn_a1 gs pub vars lg n h32)
    (And.intro (show flat [Ch.e (shf 1)] = flat [Ch.e (shf 1)] from rfl)
    (And.intro (show [XV.t (.v (.int .i64 1))] = [XV.t (.v (.int .i64 1))] from rfl)
    (And.intro (show [XV.t (.v (.int .i64 1))] = [XV.t (.v (.int .i64 1))] from rfl)
    (And.intro (ne_selfI n)
    (And.intro (ne_selfI n)
    (And.intro (show some (snI gs pub vars lg n 0 0) = some (snI gs pub vars lg n 0 0) from rfl)
    (And.intro (sn_a0 gs pub vars lg n h32)
    (And.intro (show flat [Ch.e (shf 0)] = flat [Ch.e (shf 0)] from rfl)
    (And.intro (show [XV.t (.v (.int .i64 0))] = [XV.t (.v (.int .i64 0))] from rfl)
    (And.intro (show [XV.t (.v (.int .i64 0))] = [XV.t (.v (.int .i64 0))] from rfl)
    (And.intro (ne_selfI n)
    (And.intro (ne_selfI n)
    (And.intro (elem19_n lg hl n hn h32 h0)
    (And.intro (show ([.ags [.z [.l (gsC gs)] gs.length, .c (.c (.int .i64 pub)), .c (.c (.int .i64 vars))], .t (.v (.int .i64 ((lg : Nat) : Int)))] : List XV) = [.ags [.z [.l (gsC gs)] gs.length, .c (.c (.int .i64 pub)), .c (.c (.int .i64 vars))], .t (.v (.int .i64 ((lg : Nat) : Int)))] from rfl)
    (And.intro (values_m gs pub vars lg hl n hn h32 h0 hm hln hck 48 49 50)
    (And.intro (next_m gs pub vars lg hl n hn h32 h0 hm hln hck 39 40 41)
    (And.intro (show decide (((lg : Nat) : Int) ≤ 5) = true from decide_eq_true (by omega))
    (And.intro (show ([.ags [.z [.l (gsC gs)] gs.length, .c (.c (.int .i64 pub)), .c (.c (.int .i64 vars))], .t (.v (.int .i64 ((lg : Nat) : Int)))] : List XV) = [.ags [.z [.l (gsC gs)] gs.length, .c (.c (.int .i64 pub)), .c (.c (.int .i64 vars))], .t (.v (.int .i64 ((lg : Nat) : Int)))] from rfl)
    (And.intro (cut30 g0 gs h30) trivial))))))))))))))))))))))))))))
/-- What a circuit that may be has: so many gates. -/
theorem ck_len {gs : List GT} {pub vars : Int} {lg : Nat} (h : ckE gs pub vars ((lg : Nat) : Int) = 0) : gs.length ≤ 2 ^ lg := by
  unfold ckE at h
  split at h
  · split at h
    · rename_i h2; have := h2.2.2; rwa [Int.toNat_natCast] at this
    · cases h
  · cases h
theorem ck_pos {gs : List GT} {pub vars log : Int} (h : ckE gs pub vars log = 0) : 0 ≤ log := by
  unfold ckE at h
  split at h
  · split at h
    · rename_i h2; exact h2.1
    · cases h
  · cases h
theorem pow5 {lg : Nat} (h : lg ≤ 5) : 2 ^ lg ≤ 1000 ∧ 0 < 2 ^ lg := by
  have : ∀ x : Fin 6, 2 ^ x.val ≤ 1000 ∧ 0 < 2 ^ x.val := by decide
  exact this ⟨lg, by omega⟩
theorem sigmaNext_gives (g0 : List GT) (pub vars log : Int) : Gives Try.prog 3 [.ags [.z [.l (gsC g0)] g0.length, .c (.c (.int .i64 pub)), .c (.c (.int .i64 vars))], .t (.v (.int .i64 log))] (.v (.bool true)) := by
  have hl := len30 (g0 := g0) rfl
  by_cases hc : ckE (g0.take 30) pub vars log = 0
  · by_cases h5 : log ≤ 5
    · obtain ⟨lg, rfl⟩ := Int.eq_ofNat_of_zero_le (ck_pos hc)
      have h := rk_e (g0.take 30) pub vars (by omega) ((lg : Nat) : Int)
      rw [hc] at h
      obtain ⟨p1, p2⟩ := pow5 (show lg ≤ 5 by omega)
      exact sn_main g0 _ rfl pub vars lg (by omega) _ rfl p1 p2 (by omega) (ck_len hc) hc h
    · exact sn_big g0 _ rfl pub vars log hc h5
  · exact sn_err g0 _ rfl pub vars log _ rfl hc
end Go.Proofs.Ytoigbjimhcgolaa
