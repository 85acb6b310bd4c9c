/- Pruned: Gtb. -/
import Derived.Test.YtobgpmclgacbmaaQGc
import Derived.Test.YtobgpmclgacbmaaQGd
import Derived.Test.YtobgpmclgacbmaaQGta
import Derived.Test.YtobgpmclgacbmaaQGv
import Derived.Test.YtobgpmclgacbmaaQHb
/- one.Mul, one.Neg, one.Add at told arguments. -/
set_option linter.unusedSimpArgs false
set_option linter.unusedVariables false
namespace Go.Proofs.Ytobgpmclgacbmaa
open Go.Ev Go.RowKit
/-- A contract at told arguments. -/
def GivesT (P : Program) (f : FuncId) (args : List XV) (r : AV) : Prop := (∀ vs w, (callFunc f vs).run P w = .ok (.enter f vs) w) ∧ Gives P f args r
def eAt (f : FuncId) (l : List (List XV × AV)) : Entry := ⟨f, fun _ a => l.map fun q => (some (a = q.1), q.2)⟩
theorem eAt_ok {P : Program} {f : FuncId} {l : List (List XV × AV)} (h : ∀ q ∈ l, GivesT P f q.1 q.2) : (eAt f l).OK P := by
  intro hi args c r hm hc
  simp only [eAt, List.mem_map, Prod.mk.injEq] at hm
  obtain ⟨q, hq, rfl, rfl⟩ := hm
  simp only [Option.getD_some] at hc
  subst hc
  obtain ⟨he, v, hv, hx⟩ := h q hq
  exact ⟨v, hv, fun w vs hr => .inr ⟨he _ _, hx w vs hr⟩⟩
theorem eAt_one {P : Program} {f : FuncId} {a : List XV} {r : AV} (h : GivesT P f a r) : (eAt f [(a, r)]).OK P := eAt_ok (fun q hq => by rw [List.mem_singleton] at hq; subst hq; exact h)
theorem eAt_two {P : Program} {f : FuncId} {a b : List XV} {r t : AV} (h : GivesT P f a r) (h' : GivesT P f b t) : (eAt f [(a, r), (b, t)]).OK P := eAt_ok (fun q hq => by
  simp only [List.mem_cons, List.not_mem_nil, or_false] at hq
  rcases hq with rfl | rfl
  · exact h
  · exact h')
def afRS (m : Nat) : LState := { n := 35, sl := [(2, .p 1 0), (3, .p 2 0), (4, .v (.bool false)), (5, .p 4 0)] ++ (match Nat.testBit m 0 with | true => [(12, .ag [.c (.int .u64 0), .c (.int .u64 0), .c (.int .u64 0), .c (.int .u64 0), .c (.int .u64 0), .c (.int .u64 0)])] | false => []) ++ (match Nat.testBit m 1 with | true => [(13, .ag [.c (.int .u64 0), .c (.int .u64 0), .c (.int .u64 0), .c (.int .u64 0), .c (.int .u64 0), .c (.int .u64 0)])] | false => []), hp := [(1, .own [.c (.int .u64 0), .c (.int .u64 0), .c (.int .u64 0), .c (.int .u64 0), .c (.int .u64 0), .c (.int .u64 0)] 43), (2, .own [.c (.int .u64 0), .c (.int .u64 0), .c (.int .u64 0), .c (.int .u64 0), .c (.int .u64 0), .c (.int .u64 0)] 43), (4, .own [.c (.int .u64 0), .c (.int .u64 0), .c (.int .u64 0), .c (.int .u64 0), .c (.int .u64 0), .c (.int .u64 0)] 43)] }
def afRMs : List (Nat × Nat) := [(5, 0), (4, 1), (4, 2), (3, 3), (3, 5), (2, 7), (1, 15), (0, 31)]
theorem afR_region : Sound Try.prog 0 false (drawB Try.f38 0) (afRS 0).aa .normal (afRS 31).aa :=
  regionD_sound (P := Try.prog) (X := rulesX _) (env := []) trivial (inlN_ok (P := Try.prog) (X := rulesX _) (env := []) (os := oL []) trivial 0) (os := oL []) (fb := 0) (k := 900) (S := afRS ) (kk := fun _ _ => 1000) (tau := fun _ _ => []) (Ms := afRMs) (full := 31) (by kernel_rfl)
    (have hR : ∀ m, some (afRS m) = some (afRS m) := fun _ => rfl; (And.intro (And.intro (And.intro trivial (hR 1)) (And.intro (And.intro trivial (hR 2)) trivial)) (And.intro (And.intro (And.intro trivial (hR 3)) (And.intro (And.intro trivial (hR 5)) trivial)) (And.intro (And.intro (And.intro trivial (hR 3)) trivial) (And.intro (And.intro (And.intro trivial (hR 7)) trivial) (And.intro (And.intro (And.intro trivial (hR 7)) trivial) (And.intro (And.intro (And.intro trivial (hR 15)) trivial) (And.intro (And.intro (And.intro trivial (hR 31)) trivial) (And.intro trivial trivial)))))))))
theorem aff1_inf (p : Pt1) (hz : p.2.2 = 0) : GivesT Try.prog 38 [.t (.ag (pc1 p))] (.tp [.ag [.c (.int .u64 0), .c (.int .u64 0), .c (.int .u64 0), .c (.int .u64 0), .c (.int .u64 0), .c (.int .u64 0)], .ag [.c (.int .u64 0), .c (.int .u64 0), .c (.int .u64 0), .c (.int .u64 0), .c (.int .u64 0), .c (.int .u64 0)], .v (.bool false)]) :=
  ⟨fun vs w => Go.Proofs.enters_of (P := Try.prog) Try.func38 (by kernel_rfl) rfl vs w, fn_gives_at (P := Try.prog) (X := rulesX _) (env := [eIsZ1, eInvP, eTimesP]) ⟨eIsZ1_ok, eInvP_ok, eTimesP_ok, trivial⟩ Try.func38 0 (oL [(8, wO 0), (9, lpO { kd := 5, I := afRS 0, ex := .normal, E := afRS 31, fr := 14 })]) (by kernel_rfl) ⟨_, rfl⟩
    (And.intro (show some (afRS 0) = some (afRS 0) from rfl) (And.intro afR_region (And.intro (show p.2.2 = 0 from hz) trivial)))⟩
theorem aff1_fin (p : Pt1) (hz : p.2.2 ≠ 0) : GivesT Try.prog 38 [.t (.ag (pc1 p))] (.tp [.ag [.m (axE p)], .ag [.m (ayE p)], .v (.bool true)]) :=
  ⟨fun vs w => Go.Proofs.enters_of (P := Try.prog) Try.func38 (by kernel_rfl) rfl vs w, fn_gives_at (P := Try.prog) (X := rulesX _) (env := [eIsZ1, eInvP, eTimesP]) ⟨eIsZ1_ok, eInvP_ok, eTimesP_ok, trivial⟩ Try.func38 0 (oL [(8, wO 1)]) (by kernel_rfl) ⟨_, rfl⟩
    (And.intro (show p.2.2 ≠ 0 from hz) trivial)⟩
theorem out1_inf (p : Pt1) (hz : p.2.2 = 0) : GivesT Try.prog 15 [.t (.ag (pc1 p))] (.ag [.n 6 0, .n 6 0, .c (.bool true)]) :=
  ⟨fun vs w => Go.Proofs.enters_of (P := Try.prog) Try.func15 (by kernel_rfl) rfl vs w, Go.Ev.Gives.same (fn_gives_at (P := Try.prog) (X := rulesX _) (env := [eAt 38 [([.t (.ag (pc1 p))], .tp [.ag [.c (.int .u64 0), .c (.int .u64 0), .c (.int .u64 0), .c (.int .u64 0), .c (.int .u64 0), .c (.int .u64 0)], .ag [.c (.int .u64 0), .c (.int .u64 0), .c (.int .u64 0), .c (.int .u64 0), .c (.int .u64 0), .c (.int .u64 0)], .v (.bool false)])], eOutP]) ⟨eAt_one (aff1_inf p hz), eOutP_ok, trivial⟩ Try.func15 0 (oL []) (r := .ag [.c (.int .u64 0), .c (.int .u64 0), .c (.int .u64 0), .c (.int .u64 0), .c (.int .u64 0), .c (.int .u64 0), .c (.int .u64 0), .c (.int .u64 0), .c (.int .u64 0), .c (.int .u64 0), .c (.int .u64 0), .c (.int .u64 0), .c (.bool true)]) (by kernel_rfl) ⟨_, rfl⟩
    (And.intro (show ([.t (.ag (pc1 p))] : List XV) = [.t (.ag (pc1 p))] from rfl) trivial)) (ag_same rfl rfl Zero1_flat).symm⟩
theorem out1_fin (p : Pt1) (hz : p.2.2 ≠ 0) : GivesT Try.prog 15 [.t (.ag (pc1 p))] (.ag [.q (axE p), .q (ayE p), .c (.bool false)]) :=
  ⟨fun vs w => Go.Proofs.enters_of (P := Try.prog) Try.func15 (by kernel_rfl) rfl vs w, fn_gives_at (P := Try.prog) (X := rulesX _) (env := [eAt 38 [([.t (.ag (pc1 p))], .tp [.ag [.m (axE p)], .ag [.m (ayE p)], .v (.bool true)])], eOutP]) ⟨eAt_one (aff1_fin p hz), eOutP_ok, trivial⟩ Try.func15 0 (oL []) (by kernel_rfl) ⟨_, rfl⟩
    (And.intro (show ([.t (.ag (pc1 p))] : List XV) = [.t (.ag (pc1 p))] from rfl) trivial)⟩
theorem out1_of {p : Pt1} {x y : Fin Pp} (h : afJ p = some (x, y)) : GivesT Try.prog 15 [.t (.ag (pc1 p))] (.ag [.q x, .q y, .c (.bool false)]) := by
  have hz : p.2.2 ≠ 0 := fun e => by rw [afJ_none e] at h; cases h
  have h2 := out1_fin p hz
  rw [afJ_ax hz] at h
  obtain ⟨rfl, rfl⟩ : axE p = x ∧ ayE p = y := by simpa using h
  exact h2
theorem in1_gen : in1 (g1x, g1y, false) = genP1 := by
  unfold in1
  rw [if_neg (by simp)]
  rfl
theorem mul_inf (k : Nat) (hk : k < 115792089237316195423570985008687907853269984665640564039457584007913129639936) (p : Pt1) (hp : man1 (in1 (g1x, g1y, false)) k 64 = p) (hz : p.2.2 = 0) : GivesT Try.prog 4 [.t (.ag [.n 6 g1x, .n 6 g1y, .c (.bool false)]), .t (.ag [.n 4 k])] (.tp [.ag [.n 6 0, .n 6 0, .c (.bool true)], .v (.int .i64 0)]) :=
  ⟨fun vs w => Go.Proofs.enters_of (P := Try.prog) Try.func4 (by kernel_rfl) rfl vs w, fn_gives_at (P := Try.prog) (X := rulesX _) (env := [eRig1, eInG1, eMany1, eAt 15 [([.t (.ag (pc1 p))], .ag [.n 6 0, .n 6 0, .c (.bool true)])]]) ⟨eRig1_ok, eInG1_ok, eMany1_ok, eAt_one (out1_inf p hz), trivial⟩ Try.func4 0 (oL []) (by kernel_rfl) ⟨_, rfl⟩
    (And.intro (show ([.t (.ag (pc1 (man1 (in1 (g1x, g1y, false)) k 64)))] : List XV) = [.t (.ag (pc1 p))] from by rw [hp])
    (And.intro (show k < 115792089237316195423570985008687907853269984665640564039457584007913129639936 from hk)
    (And.intro (show sml1 (g1x, g1y, false) from g1_sml)
    (And.intro (show sml1 (g1x, g1y, false) ∧ may1 (g1x, g1y, false) from ⟨g1_sml, g1_may⟩) trivial))))⟩
theorem mul_fin (k : Nat) (hk : k < 115792089237316195423570985008687907853269984665640564039457584007913129639936) (p : Pt1) (hp : man1 (in1 (g1x, g1y, false)) k 64 = p) (x y : Fin Pp) (h : afJ p = some (x, y)) : GivesT Try.prog 4 [.t (.ag [.n 6 g1x, .n 6 g1y, .c (.bool false)]), .t (.ag [.n 4 k])] (.tp [.ag [.q x, .q y, .c (.bool false)], .v (.int .i64 0)]) :=
  ⟨fun vs w => Go.Proofs.enters_of (P := Try.prog) Try.func4 (by kernel_rfl) rfl vs w, fn_gives_at (P := Try.prog) (X := rulesX _) (env := [eRig1, eInG1, eMany1, eAt 15 [([.t (.ag (pc1 p))], .ag [.q x, .q y, .c (.bool false)])]]) ⟨eRig1_ok, eInG1_ok, eMany1_ok, eAt_one (out1_of h), trivial⟩ Try.func4 0 (oL []) (by kernel_rfl) ⟨_, rfl⟩
    (And.intro (show ([.t (.ag (pc1 (man1 (in1 (g1x, g1y, false)) k 64)))] : List XV) = [.t (.ag (pc1 p))] from by rw [hp])
    (And.intro (show k < 115792089237316195423570985008687907853269984665640564039457584007913129639936 from hk)
    (And.intro (show sml1 (g1x, g1y, false) from g1_sml)
    (And.intro (show sml1 (g1x, g1y, false) ∧ may1 (g1x, g1y, false) from ⟨g1_sml, g1_may⟩) trivial))))⟩
theorem sml_q (x y : Fin Pp) (b : Bool) : sml1 (x.val, y.val, b) := ⟨Nat.lt_trans x.isLt (by decide), Nat.lt_trans y.isLt (by decide)⟩
theorem neg_fin (x y : Fin Pp) (hm : may1 (x.val, y.val, false)) : GivesT Try.prog 8 [.t (.ag [.q x, .q y, .c (.bool false)])] (.tp [.ag [.q x, .q (-y), .c (.bool false)], .v (.int .i64 0)]) :=
  ⟨fun vs w => Go.Proofs.enters_of (P := Try.prog) Try.func8 (by kernel_rfl) rfl vs w, fn_gives_at (P := Try.prog) (X := rulesX _) (env := [eRig1, eInG1, eNegP, eAt 15 [([.t (.ag (pc1 (x, -y, 1)))], .ag [.q x, .q (-y), .c (.bool false)])]]) ⟨eRig1_ok, eInG1_ok, eNegP_ok, eAt_one (out1_of (afJ_one x (-y))), trivial⟩ Try.func8 1 (oL []) (by kernel_rfl) ⟨_, rfl⟩
    (And.intro (show ([.t (.ag [.m (in1 (x.val, y.val, false)).1, .m (-(in1 (x.val, y.val, false)).2.1), .m (in1 (x.val, y.val, false)).2.2])] : List XV) = [.t (.ag (pc1 (x, -y, 1)))] from by rw [in1_q]; rfl)
    (And.intro (show sml1 (x.val, y.val, false) from sml_q x y false)
    (And.intro (show sml1 (x.val, y.val, false) ∧ may1 (x.val, y.val, false) from ⟨sml_q x y false, hm⟩) trivial)))⟩
theorem neg_inf : GivesT Try.prog 8 [.t (.ag [.n 6 0, .n 6 0, .c (.bool true)])] (.tp [.ag [.n 6 0, .n 6 0, .c (.bool true)], .v (.int .i64 0)]) :=
  ⟨fun vs w => Go.Proofs.enters_of (P := Try.prog) Try.func8 (by kernel_rfl) rfl vs w, fn_gives_at (P := Try.prog) (X := rulesX _) (env := [eRig1, eInG1, eNegP, eAt 15 [([.t (.ag (pc1 (1, -1, 0)))], .ag [.n 6 0, .n 6 0, .c (.bool true)])]]) ⟨eRig1_ok, eInG1_ok, eNegP_ok, eAt_one (out1_inf (1, -1, 0) rfl), trivial⟩ Try.func8 1 (oL []) (by kernel_rfl) ⟨_, rfl⟩
    (And.intro (show ([.t (.ag [.m (in1 (0, 0, true)).1, .m (-(in1 (0, 0, true)).2.1), .m (in1 (0, 0, true)).2.2])] : List XV) = [.t (.ag (pc1 (1, -1, 0)))] from by rw [in1_inf' 0 0]; rfl)
    (And.intro (show sml1 (0, 0, true) from zero1_sml)
    (And.intro (show sml1 (0, 0, true) ∧ may1 (0, 0, true) from ⟨zero1_sml, zero1_may⟩) trivial)))⟩
theorem add_fin (x y : Fin Pp) (h : y * y = x * x * x + 4) (hm : may1 (x.val, y.val, false)) (hn : may1 (x.val, (-y).val, false)) : GivesT Try.prog 10 [.t (.ag [.q x, .q y, .c (.bool false)]), .t (.ag [.q x, .q (-y), .c (.bool false)])] (.tp [.ag [.n 6 0, .n 6 0, .c (.bool true)], .v (.int .i64 0)]) :=
  ⟨fun vs w => Go.Proofs.enters_of (P := Try.prog) Try.func10 (by kernel_rfl) rfl vs w, fn_gives_at (P := Try.prog) (X := rulesX _) (env := [eRig1, eInG1, ePlusC1, eAt 15 [([.t (.ag (pc1 (sum1 (x, y, 1) (x, -y, 1))))], .ag [.n 6 0, .n 6 0, .c (.bool true)])]]) ⟨eRig1_ok, eInG1_ok, ePlusC1_ok, eAt_one (out1_inf _ (sumE_ng h)), trivial⟩ Try.func10 1 (oL [(21, hdO 9)]) (by kernel_rfl) ⟨_, rfl⟩
    (And.intro (show ([.t (.ag (pc1 (sum1 (in1 (x.val, y.val, false)) (in1 (x.val, (-y).val, false)))))] : List XV) = [.t (.ag (pc1 (sum1 (x, y, 1) (x, -y, 1))))] from by rw [in1_q, in1_q])
    (And.intro (show sml1 (x.val, (-y).val, false) from sml_q x (-y) false)
    (And.intro (show sml1 (x.val, y.val, false) from sml_q x y false)
    (And.intro (show sml1 (x.val, (-y).val, false) ∧ may1 (x.val, (-y).val, false) from ⟨sml_q x (-y) false, hn⟩)
    (And.intro (show sml1 (x.val, y.val, false) ∧ may1 (x.val, y.val, false) from ⟨sml_q x y false, hm⟩) trivial)))))⟩
theorem add_inf : GivesT Try.prog 10 [.t (.ag [.n 6 0, .n 6 0, .c (.bool true)]), .t (.ag [.n 6 0, .n 6 0, .c (.bool true)])] (.tp [.ag [.n 6 0, .n 6 0, .c (.bool true)], .v (.int .i64 0)]) :=
  ⟨fun vs w => Go.Proofs.enters_of (P := Try.prog) Try.func10 (by kernel_rfl) rfl vs w, fn_gives_at (P := Try.prog) (X := rulesX _) (env := [eRig1, eInG1, ePlusC1, eAt 15 [([.t (.ag (pc1 (sum1 (1, 1, 0) (1, 1, 0))))], .ag [.n 6 0, .n 6 0, .c (.bool true)])]]) ⟨eRig1_ok, eInG1_ok, ePlusC1_ok, eAt_one (out1_inf _ (by rw [sum1_inf (1, 1, 0) _ rfl])), trivial⟩ Try.func10 1 (oL [(21, hdO 9)]) (by kernel_rfl) ⟨_, rfl⟩
    (And.intro (show ([.t (.ag (pc1 (sum1 (in1 (0, 0, true)) (in1 (0, 0, true)))))] : List XV) = [.t (.ag (pc1 (sum1 (1, 1, 0) (1, 1, 0))))] from by rw [in1_inf' 0 0])
    (And.intro (show sml1 (0, 0, true) from zero1_sml)
    (And.intro (show sml1 (0, 0, true) from zero1_sml)
    (And.intro (show sml1 (0, 0, true) ∧ may1 (0, 0, true) from ⟨zero1_sml, zero1_may⟩)
    (And.intro (show sml1 (0, 0, true) ∧ may1 (0, 0, true) from ⟨zero1_sml, zero1_may⟩) trivial)))))⟩
end Go.Proofs.Ytobgpmclgacbmaa

/- chirographtop.TopBytes: as a truth. -/
set_option linter.unusedSimpArgs false
set_option linter.unusedVariables false
namespace Go.Proofs.Ytobgpmclgacbmaa
open Go.Ev Go.RowKit
theorem or_none : ∀ b : Fin 256, UInt8.ofNat (bits BinOp.or IntKind.u8 (b.val : Int) 0).toNat = UInt8.ofNat b.val := by decide +kernel
theorem flg_none (l : List UInt8) : flgI l 0 = l := by
  cases l with
  | nil => rfl
  | cons b r =>
    show UInt8.ofNat (bits BinOp.or IntKind.u8 (b.toNat : Int) 0).toNat :: r = b :: r
    rw [or_none ⟨b.toNat, b.toNat_lt⟩]
    simp
theorem put_long (x y : Fin Pp) : putL1 x y false false = b1 x ++ b1 y := flg_none _
theorem one_smS : smtS (.inr 1) := by show 1 < 115792089237316195423570985008687907853269984665640564039457584007913129639936; decide
theorem alive_top : GivesT Try.prog 12 [] (.v (.bool true)) :=
  ⟨fun vs w => Go.Proofs.enters_of (P := Try.prog) Try.func12 (by kernel_rfl) rfl vs w, fn_gives_at (P := Try.prog) (X := rulesX _) (env := [eFAddS, eGen1, eRig1, eGen2, eRig2]) ⟨eFAddS_ok, eGen1_ok, eRig1_ok, eGen2_ok, eRig2_ok, trivial⟩ Try.func12 0 (oL [(5, wO 0)]) (by kernel_rfl) ⟨_, rfl⟩
    (And.intro (show sml2 ((g2xa, g2xb), (g2ya, g2yb), false) ∧ may2 ((g2xa, g2xb), (g2ya, g2yb), false) from ⟨g2_sml, g2_may⟩)
    (And.intro (show sml1 (g1x, g1y, false) ∧ may1 (g1x, g1y, false) from ⟨g1_sml, g1_may⟩)
    (And.intro (show flat [Ch.e (ofR 1 + ofR 1)] = flat [Ch.c (.int .u64 2), Ch.c (.int .u64 0), Ch.c (.int .u64 0), Ch.c (.int .u64 0)] from by kernel_rfl)
    (And.intro (show smtS (.inr 1) ∧ smtS (.inr 1) from ⟨one_smS, one_smS⟩) trivial))))⟩
theorem wide_told (x y : Fin Pp) (hm : may1 (x.val, y.val, false)) (hg : grp1 (x.val, y.val, false)) : GivesT Try.prog 6 [.t (.ag [.q x, .q y, .c (.bool false)])] (.tp [.v (.string (ofL (putL1 x y false false))), .v (.int .i64 0)]) :=
  ⟨fun vs w => Go.Proofs.enters_of (P := Try.prog) Try.func6 (by kernel_rfl) rfl vs w, by
    have h := Wide1_ok (x.val, y.val, false) (sml_q x y false) hm hg
    rw [ofP_val', ofP_val'] at h
    exact ga1P h (fun _ _ e => e)⟩
theorem put_told (x y : Fin Pp) (hm : may1 (x.val, y.val, false)) (hg : grp1 (x.val, y.val, false)) : GivesT Try.prog 9 [.t (.ag [.q x, .q y, .c (.bool false)])] (.tp [.v (.string (ofL (putL1 x y false true))), .v (.int .i64 0)]) :=
  ⟨fun vs w => Go.Proofs.enters_of (P := Try.prog) Try.func9 (by kernel_rfl) rfl vs w, by
    have h := Put1_ok (x.val, y.val, false) (sml_q x y false) hm hg
    rw [ofP_val', ofP_val'] at h
    exact ga1P h (fun _ _ e => e)⟩
theorem get_told (x y : Fin Pp) (b : Bool) (hm : may1 (x.val, y.val, false)) (hg : grp1 (x.val, y.val, false)) : GivesT Try.prog 7 [.t (.v (.string (ofL (putL1 x y false b))))] (.tp [.ag [.q x, .q y, .c (.bool false)], .v (.int .i64 0)]) :=
  ⟨fun vs w => Go.Proofs.enters_of (P := Try.prog) Try.func7 (by kernel_rfl) rfl vs w, by
    obtain ⟨h0, h1, h2, h3⟩ := back1 x y false b hm hg
    have h := good1 _ h0
    rw [h1, h2, h3] at h
    exact h⟩
theorem wide_inf : GivesT Try.prog 6 [.t (.ag [.n 6 0, .n 6 0, .c (.bool true)])] (.tp [.v (.string (ofL (putL1 0 0 true false))), .v (.int .i64 0)]) :=
  ⟨fun vs w => Go.Proofs.enters_of (P := Try.prog) Try.func6 (by kernel_rfl) rfl vs w, Wide1_ok (0, 0, true) zero1_sml zero1_may zero1_grp⟩
theorem put_inf : GivesT Try.prog 9 [.t (.ag [.n 6 0, .n 6 0, .c (.bool true)])] (.tp [.v (.string (ofL (putL1 0 0 true true))), .v (.int .i64 0)]) :=
  ⟨fun vs w => Go.Proofs.enters_of (P := Try.prog) Try.func9 (by kernel_rfl) rfl vs w, Put1_ok (0, 0, true) zero1_sml zero1_may zero1_grp⟩
theorem get_inf (b : Bool) : GivesT Try.prog 7 [.t (.v (.string (ofL (putL1 0 0 true b))))] (.tp [.ag [.n 6 0, .n 6 0, .c (.bool true)], .v (.int .i64 0)]) :=
  ⟨fun vs w => Go.Proofs.enters_of (P := Try.prog) Try.func7 (by kernel_rfl) rfl vs w, by
    obtain ⟨h0, h1, h2, h3⟩ := back1 0 0 true b zero1_may zero1_grp
    have h := good1 _ h0
    rw [h1, h2, h3] at h
    exact h⟩
theorem tb_fin (k : Nat) (x y : Fin Pp) (s t : List UInt8) (hM : GivesT Try.prog 4 [.t (.ag [.n 6 g1x, .n 6 g1y, .c (.bool false)]), .t (.ag [.n 4 k])] (.tp [.ag [.q x, .q y, .c (.bool false)], .v (.int .i64 0)])) (hW : GivesT Try.prog 6 [.t (.ag [.q x, .q y, .c (.bool false)])] (.tp [.v (.string (ofL s)), .v (.int .i64 0)])) (hG : GivesT Try.prog 7 [.t (.v (.string (ofL s)))] (.tp [.ag [.q x, .q y, .c (.bool false)], .v (.int .i64 0)])) (hG2 : GivesT Try.prog 7 [.t (.v (.string (ofL t)))] (.tp [.ag [.q x, .q (-y), .c (.bool false)], .v (.int .i64 0)])) (hN : GivesT Try.prog 8 [.t (.ag [.q x, .q y, .c (.bool false)])] (.tp [.ag [.q x, .q (-y), .c (.bool false)], .v (.int .i64 0)])) (hP : GivesT Try.prog 9 [.t (.ag [.q x, .q (-y), .c (.bool false)])] (.tp [.v (.string (ofL t)), .v (.int .i64 0)])) (hA : GivesT Try.prog 10 [.t (.ag [.q x, .q y, .c (.bool false)]), .t (.ag [.q x, .q (-y), .c (.bool false)])] (.tp [.ag [.n 6 0, .n 6 0, .c (.bool true)], .v (.int .i64 0)])) (he : s = b1 x ++ b1 y) : Gives Try.prog 3 [.t (.ag [.n 4 k])] (.v (.bool true)) :=
  fn_gives_at (P := Try.prog) (X := rulesX _) (env := [eGen1, eZero1, eAt 4 [([.t (.ag [.n 6 g1x, .n 6 g1y, .c (.bool false)]), .t (.ag [.n 4 k])], .tp [.ag [.q x, .q y, .c (.bool false)], .v (.int .i64 0)])], eAt 6 [([.t (.ag [.q x, .q y, .c (.bool false)])], .tp [.v (.string (ofL s)), .v (.int .i64 0)])], eAt 7 [([.t (.v (.string (ofL s)))], .tp [.ag [.q x, .q y, .c (.bool false)], .v (.int .i64 0)]), ([.t (.v (.string (ofL t)))], .tp [.ag [.q x, .q (-y), .c (.bool false)], .v (.int .i64 0)])], eAt 8 [([.t (.ag [.q x, .q y, .c (.bool false)])], .tp [.ag [.q x, .q (-y), .c (.bool false)], .v (.int .i64 0)])], eAt 9 [([.t (.ag [.q x, .q (-y), .c (.bool false)])], .tp [.v (.string (ofL t)), .v (.int .i64 0)])], eAt 10 [([.t (.ag [.q x, .q y, .c (.bool false)]), .t (.ag [.q x, .q (-y), .c (.bool false)])], .tp [.ag [.n 6 0, .n 6 0, .c (.bool true)], .v (.int .i64 0)])], eAt 12 [([], .v (.bool true))], eFPutP]) ⟨eGen1_ok, eZero1_ok, eAt_one hM, eAt_one hW, eAt_two hG hG2, eAt_one hN, eAt_one hP, eAt_one hA, eAt_one alive_top, eFPutP_ok, trivial⟩ Try.func3 0 (oL [(42, wO 1), (87, wO 0), (101, rO 6 0), (102, wT)]) (by kernel_rfl) ⟨_, rfl⟩
    (And.intro (show ((ofL s).toList == (ofL ((ofL (beL 48 x.val)).data.toList ++ (ofL (beL 48 y.val)).data.toList)).toList) = true from by rw [he]; simp [ofL, b1])
    (And.intro (show (ofL (beL 48 x.val)).size + (ofL (beL 48 y.val)).size ≤ 9223372036854775807 from by show (beL 48 x.val).length + (beL 48 y.val).length ≤ _; rw [beL_length, beL_length]; decide)
    (And.intro (show True from trivial)
    (And.intro (show True from trivial)
    (And.intro (show ([] : List XV) = [] from rfl)
    (And.intro (show flat [.n 6 0, .n 6 0, .c (.bool true)] = flat [.n 6 0, .n 6 0, .c (.bool true)] from rfl)
    (And.intro (show ([.t (.ag [.q x, .q y, .c (.bool false)]), .t (.ag [.q x, .q (-y), .c (.bool false)])] : List XV) = [.t (.ag [.q x, .q y, .c (.bool false)]), .t (.ag [.q x, .q (-y), .c (.bool false)])] from rfl)
    (And.intro (show ([.t (.v (.string (ofL t)))] : List XV) = [.t (.v (.string (ofL t)))] from rfl)
    (And.intro (show ([.t (.ag [.q x, .q (-y), .c (.bool false)])] : List XV) = [.t (.ag [.q x, .q (-y), .c (.bool false)])] from rfl)
    (And.intro (show ([.t (.ag [.q x, .q y, .c (.bool false)])] : List XV) = [.t (.ag [.q x, .q y, .c (.bool false)])] from rfl)
    (And.intro (show ([.t (.v (.string (ofL s)))] : List XV) = [.t (.v (.string (ofL s)))] from rfl)
    (And.intro (show ([.t (.ag [.q x, .q y, .c (.bool false)])] : List XV) = [.t (.ag [.q x, .q y, .c (.bool false)])] from rfl)
    (And.intro (show ([.t (.ag [.n 6 g1x, .n 6 g1y, .c (.bool false)]), .t (.ag [.n 4 k])] : List XV) = [.t (.ag [.n 6 g1x, .n 6 g1y, .c (.bool false)]), .t (.ag [.n 4 k])] from rfl) trivial)))))))))))))
theorem tb_inf (k : Nat) (s t : List UInt8) (hM : GivesT Try.prog 4 [.t (.ag [.n 6 g1x, .n 6 g1y, .c (.bool false)]), .t (.ag [.n 4 k])] (.tp [.ag [.n 6 0, .n 6 0, .c (.bool true)], .v (.int .i64 0)])) (hW : GivesT Try.prog 6 [.t (.ag [.n 6 0, .n 6 0, .c (.bool true)])] (.tp [.v (.string (ofL s)), .v (.int .i64 0)])) (hG : GivesT Try.prog 7 [.t (.v (.string (ofL s)))] (.tp [.ag [.n 6 0, .n 6 0, .c (.bool true)], .v (.int .i64 0)])) (hG2 : GivesT Try.prog 7 [.t (.v (.string (ofL t)))] (.tp [.ag [.n 6 0, .n 6 0, .c (.bool true)], .v (.int .i64 0)])) (hN : GivesT Try.prog 8 [.t (.ag [.n 6 0, .n 6 0, .c (.bool true)])] (.tp [.ag [.n 6 0, .n 6 0, .c (.bool true)], .v (.int .i64 0)])) (hP : GivesT Try.prog 9 [.t (.ag [.n 6 0, .n 6 0, .c (.bool true)])] (.tp [.v (.string (ofL t)), .v (.int .i64 0)])) (hA : GivesT Try.prog 10 [.t (.ag [.n 6 0, .n 6 0, .c (.bool true)]), .t (.ag [.n 6 0, .n 6 0, .c (.bool true)])] (.tp [.ag [.n 6 0, .n 6 0, .c (.bool true)], .v (.int .i64 0)])) : Gives Try.prog 3 [.t (.ag [.n 4 k])] (.v (.bool true)) :=
  fn_gives_at (P := Try.prog) (X := rulesX _) (env := [eGen1, eZero1, eAt 4 [([.t (.ag [.n 6 g1x, .n 6 g1y, .c (.bool false)]), .t (.ag [.n 4 k])], .tp [.ag [.n 6 0, .n 6 0, .c (.bool true)], .v (.int .i64 0)])], eAt 6 [([.t (.ag [.n 6 0, .n 6 0, .c (.bool true)])], .tp [.v (.string (ofL s)), .v (.int .i64 0)])], eAt 7 [([.t (.v (.string (ofL s)))], .tp [.ag [.n 6 0, .n 6 0, .c (.bool true)], .v (.int .i64 0)]), ([.t (.v (.string (ofL t)))], .tp [.ag [.n 6 0, .n 6 0, .c (.bool true)], .v (.int .i64 0)])], eAt 8 [([.t (.ag [.n 6 0, .n 6 0, .c (.bool true)])], .tp [.ag [.n 6 0, .n 6 0, .c (.bool true)], .v (.int .i64 0)])], eAt 9 [([.t (.ag [.n 6 0, .n 6 0, .c (.bool true)])], .tp [.v (.string (ofL t)), .v (.int .i64 0)])], eAt 10 [([.t (.ag [.n 6 0, .n 6 0, .c (.bool true)]), .t (.ag [.n 6 0, .n 6 0, .c (.bool true)])], .tp [.ag [.n 6 0, .n 6 0, .c (.bool true)], .v (.int .i64 0)])], eAt 12 [([], .v (.bool true))], eFPutP]) ⟨eGen1_ok, eZero1_ok, eAt_one hM, eAt_one hW, eAt_two hG hG2, eAt_one hN, eAt_one hP, eAt_one hA, eAt_one alive_top, eFPutP_ok, trivial⟩ Try.func3 0 (oL [(42, wO 1), (87, wO 0)]) (by kernel_rfl) ⟨_, rfl⟩
    (And.intro (show ([] : List XV) = [] from rfl)
    (And.intro (show flat [.n 6 0, .n 6 0, .c (.bool true)] = flat [.n 6 0, .n 6 0, .c (.bool true)] from rfl)
    (And.intro (show ([.t (.ag [.n 6 0, .n 6 0, .c (.bool true)]), .t (.ag [.n 6 0, .n 6 0, .c (.bool true)])] : List XV) = [.t (.ag [.n 6 0, .n 6 0, .c (.bool true)]), .t (.ag [.n 6 0, .n 6 0, .c (.bool true)])] from rfl)
    (And.intro (show ([.t (.v (.string (ofL t)))] : List XV) = [.t (.v (.string (ofL t)))] from rfl)
    (And.intro (show ([.t (.ag [.n 6 0, .n 6 0, .c (.bool true)])] : List XV) = [.t (.ag [.n 6 0, .n 6 0, .c (.bool true)])] from rfl)
    (And.intro (show ([.t (.ag [.n 6 0, .n 6 0, .c (.bool true)])] : List XV) = [.t (.ag [.n 6 0, .n 6 0, .c (.bool true)])] from rfl)
    (And.intro (show ([.t (.v (.string (ofL s)))] : List XV) = [.t (.v (.string (ofL s)))] from rfl)
    (And.intro (show ([.t (.ag [.n 6 0, .n 6 0, .c (.bool true)])] : List XV) = [.t (.ag [.n 6 0, .n 6 0, .c (.bool true)])] from rfl)
    (And.intro (show ([.t (.ag [.n 6 g1x, .n 6 g1y, .c (.bool false)]), .t (.ag [.n 4 k])] : List XV) = [.t (.ag [.n 6 g1x, .n 6 g1y, .c (.bool false)]), .t (.ag [.n 4 k])] from rfl) trivial)))))))))
theorem topBytes_gives (k : Nat) (hk : k < 115792089237316195423570985008687907853269984665640564039457584007913129639936) : Gives Try.prog 3 [.t (.ag [.n 4 k])] (.v (.bool true)) := by
  have hk' : k < 16 ^ 64 := Nat.lt_of_lt_of_eq hk (by decide)
  by_cases hz : (man1 genP1 k 64).2.2 = 0
  · exact tb_inf k _ _ (mul_inf k hk _ (by rw [in1_gen]) hz) wide_inf (get_inf false) (get_inf true) neg_inf put_inf add_inf
  · obtain ⟨x, y, hx, hy, ho, hm, hg, hm', hg'⟩ := mulE k hk' hz
    have ha : afJ (man1 genP1 k 64) = some (x, y) := by rw [hx, hy]; exact afJ_ax hz
    exact tb_fin k x y _ _ (mul_fin k hk _ (by rw [in1_gen]) x y ha) (wide_told x y hm hg) (get_told x y false hm hg) (get_told x (-y) true hm' hg') (neg_fin x y hm) (put_told x (-y) hm' hg') (add_fin x y ho hm hm') (put_long x y)
end Go.Proofs.Ytobgpmclgacbmaa
