/- Pruned: Gc. -/
import Derived.Test.YtobgpmclgacbmaaQGb
import Derived.Test.YtobgpmclgacbmaaQGr
import Derived.Test.YtobgpmclgacbmaaQGa
import Derived.Test.YtobgpmclgacbmaaQHc
import Derived.WalkKit
import Derived.RegionTactic
import Derived.ChangeAlike
import Derived.Laws.BytesString
/- Contracts of the points of curve 2: doubles, sums, multiples. -/
set_option linter.unusedSimpArgs false
set_option linter.unusedVariables false
namespace Go.Proofs.Ytobgpmclgacbmaa
open Go.Ev Go.RowKit

theorem flat_m_list : ∀ l m : List (Fin Pp), l.length = m.length → flat (l.map .m) = flat (m.map .m) → l = m
  | [], [], _, _ => rfl
  | [], _ :: _, h, _ => by simp at h
  | _ :: _, [], h, _ => by simp at h
  | x :: l, y :: m, h, e => by
    have e' : limbs 6 (toM x) ++ flat (l.map .m) = limbs 6 (toM y) ++ flat (m.map .m) := e
    have hl : (limbs 6 (toM x)).length = (limbs 6 (toM y)).length := by simp only [limbs, List.length_cons, List.length_nil]
    have h1 := List.append_inj e' hl
    have h2 : flat [Ch.m x] = flat [Ch.m y] := by simp only [flat, Ch.cells, List.append_nil]; exact h1.1
    rw [flat_m_inj h2, flat_m_list l m (by simpa using h) h1.2]
/-! ### Multiples -/
end Go.Proofs.Ytobgpmclgacbmaa

/- Contracts: what point of curve 2 may be, what is of its group. -/
set_option linter.unusedSimpArgs false
set_option linter.unusedVariables false
namespace Go.Proofs.Ytobgpmclgacbmaa
open Go.Ev Go.RowKit

theorem flat_m2_inj {a b : F2} (e : flat (m2 a) = flat (m2 b)) : a = b := by
  have := flat_m_list [a.1, a.2] [b.1, b.2] rfl e
  simp only [List.cons.injEq, and_true] at this
  exact ext2 this.1 this.2
theorem on2_no1 (x y : N2) (hx : small2 x) (hy : small2 y) (h : ¬ flat [.q (of2 x).1, .q (of2 x).2] = flat [.n 6 x.1, .n 6 x.2]) : Gives Try.prog 58 [.t (.ag [.n 6 x.1, .n 6 x.2, .n 6 y.1, .n 6 y.2, .c (.bool false)])] (.v (.bool false)) :=
  fn_gives (P := Try.prog) (env := [eIn2, eOut2, eTimes2, ePlus2, eSmP]) ⟨eIn2_ok, eOut2_ok, eTimes2_ok, ePlus2_ok, eSmP_ok, trivial⟩ Try.func58 1 (oL [(23, wO 1)]) (by kernel_rfl)
      (And.intro (show ¬ flat [.q (of2 x).1, .q (of2 x).2] = flat [.n 6 x.1, .n 6 x.2] from h)
      (And.intro (show small2 y from hy)
      (And.intro (show small2 x from hx) trivial)))
theorem on2_no2 (x y : N2) (hx : small2 x) (hy : small2 y) (h : flat [.q (of2 x).1, .q (of2 x).2] = flat [.n 6 x.1, .n 6 x.2]) (h2 : ¬ flat [.q (of2 y).1, .q (of2 y).2] = flat [.n 6 y.1, .n 6 y.2]) : Gives Try.prog 58 [.t (.ag [.n 6 x.1, .n 6 x.2, .n 6 y.1, .n 6 y.2, .c (.bool false)])] (.v (.bool false)) :=
  fn_gives (P := Try.prog) (env := [eIn2, eOut2, eTimes2, ePlus2, eSmP]) ⟨eIn2_ok, eOut2_ok, eTimes2_ok, ePlus2_ok, eSmP_ok, trivial⟩ Try.func58 1 (oL [(23, wO 0), (29, wO 1)]) (by kernel_rfl)
      (And.intro (show ¬ flat [.q (of2 y).1, .q (of2 y).2] = flat [.n 6 y.1, .n 6 y.2] from h2)
      (And.intro (show flat [.q (of2 x).1, .q (of2 x).2] = flat [.n 6 x.1, .n 6 x.2] from h)
      (And.intro (show small2 y from hy)
      (And.intro (show small2 x from hx) trivial))))
theorem on2_no3 (x y : N2) (hx : small2 x) (hy : small2 y) (h : flat [.q (of2 x).1, .q (of2 x).2] = flat [.n 6 x.1, .n 6 x.2]) (h2 : flat [.q (of2 y).1, .q (of2 y).2] = flat [.n 6 y.1, .n 6 y.2]) (h3 : ¬ flat (m2 (mul2 (of2 y) (of2 y))) = flat (m2 (add2 (mul2 (mul2 (of2 x) (of2 x)) (of2 x)) (ofP (4 % 18446744073709551616), ofP (4 % 18446744073709551616))))) : Gives Try.prog 58 [.t (.ag [.n 6 x.1, .n 6 x.2, .n 6 y.1, .n 6 y.2, .c (.bool false)])] (.v (.bool false)) :=
  fn_gives (P := Try.prog) (env := [eIn2, eOut2, eTimes2, ePlus2, eSmP]) ⟨eIn2_ok, eOut2_ok, eTimes2_ok, ePlus2_ok, eSmP_ok, trivial⟩ Try.func58 1 (oL [(23, wO 0), (29, wO 0), (42, wO 1)]) (by kernel_rfl)
      (And.intro (show ¬ flat (m2 (mul2 (of2 y) (of2 y))) = flat (m2 (add2 (mul2 (mul2 (of2 x) (of2 x)) (of2 x)) (ofP (4 % 18446744073709551616), ofP (4 % 18446744073709551616)))) from h3)
      (And.intro (show flat [.q (of2 y).1, .q (of2 y).2] = flat [.n 6 y.1, .n 6 y.2] from h2)
      (And.intro (show flat [.q (of2 x).1, .q (of2 x).2] = flat [.n 6 x.1, .n 6 x.2] from h)
      (And.intro (show small2 y from hy)
      (And.intro (show small2 x from hx) trivial)))))
theorem on2_ok (x y : N2) (hx : small2 x) (hy : small2 y) (h : flat [.q (of2 x).1, .q (of2 x).2] = flat [.n 6 x.1, .n 6 x.2]) (h2 : flat [.q (of2 y).1, .q (of2 y).2] = flat [.n 6 y.1, .n 6 y.2]) (h3 : flat (m2 (mul2 (of2 y) (of2 y))) = flat (m2 (add2 (mul2 (mul2 (of2 x) (of2 x)) (of2 x)) (ofP (4 % 18446744073709551616), ofP (4 % 18446744073709551616))))) : Gives Try.prog 58 [.t (.ag [.n 6 x.1, .n 6 x.2, .n 6 y.1, .n 6 y.2, .c (.bool false)])] (.v (.bool true)) :=
  fn_gives (P := Try.prog) (env := [eIn2, eOut2, eTimes2, ePlus2, eSmP]) ⟨eIn2_ok, eOut2_ok, eTimes2_ok, ePlus2_ok, eSmP_ok, trivial⟩ Try.func58 1 (oL [(23, wO 0), (29, wO 0), (42, wO 0)]) (by kernel_rfl)
      (And.intro (show flat (m2 (mul2 (of2 y) (of2 y))) = flat (m2 (add2 (mul2 (mul2 (of2 x) (of2 x)) (of2 x)) (ofP (4 % 18446744073709551616), ofP (4 % 18446744073709551616)))) from h3)
      (And.intro (show flat [.q (of2 y).1, .q (of2 y).2] = flat [.n 6 y.1, .n 6 y.2] from h2)
      (And.intro (show flat [.q (of2 x).1, .q (of2 x).2] = flat [.n 6 x.1, .n 6 x.2] from h)
      (And.intro (show small2 y from hy)
      (And.intro (show small2 x from hx) trivial)))))
theorem on2_inf (x y : N2) (h : flat [.n 6 x.1, .n 6 x.2, .n 6 y.1, .n 6 y.2, .c (.bool true)] = flat [.c (.int .u64 0), .c (.int .u64 0), .c (.int .u64 0), .c (.int .u64 0), .c (.int .u64 0), .c (.int .u64 0), .c (.int .u64 0), .c (.int .u64 0), .c (.int .u64 0), .c (.int .u64 0), .c (.int .u64 0), .c (.int .u64 0), .c (.int .u64 0), .c (.int .u64 0), .c (.int .u64 0), .c (.int .u64 0), .c (.int .u64 0), .c (.int .u64 0), .c (.int .u64 0), .c (.int .u64 0), .c (.int .u64 0), .c (.int .u64 0), .c (.int .u64 0), .c (.int .u64 0), .c (.bool true)]) : Gives Try.prog 58 [.t (.ag [.n 6 x.1, .n 6 x.2, .n 6 y.1, .n 6 y.2, .c (.bool true)])] (.v (.bool true)) :=
  fn_gives (P := Try.prog) (env := [eIn2, eOut2, eTimes2, ePlus2, eSmP]) ⟨eIn2_ok, eOut2_ok, eTimes2_ok, ePlus2_ok, eSmP_ok, trivial⟩ Try.func58 1 (oL [(6, wO 0)]) (by kernel_rfl)
      (And.intro (show flat [.n 6 x.1, .n 6 x.2, .n 6 y.1, .n 6 y.2, .c (.bool true)] = flat [.c (.int .u64 0), .c (.int .u64 0), .c (.int .u64 0), .c (.int .u64 0), .c (.int .u64 0), .c (.int .u64 0), .c (.int .u64 0), .c (.int .u64 0), .c (.int .u64 0), .c (.int .u64 0), .c (.int .u64 0), .c (.int .u64 0), .c (.int .u64 0), .c (.int .u64 0), .c (.int .u64 0), .c (.int .u64 0), .c (.int .u64 0), .c (.int .u64 0), .c (.int .u64 0), .c (.int .u64 0), .c (.int .u64 0), .c (.int .u64 0), .c (.int .u64 0), .c (.int .u64 0), .c (.bool true)] from h) trivial)
theorem on2_noi (x y : N2) (h : ¬ flat [.n 6 x.1, .n 6 x.2, .n 6 y.1, .n 6 y.2, .c (.bool true)] = flat [.c (.int .u64 0), .c (.int .u64 0), .c (.int .u64 0), .c (.int .u64 0), .c (.int .u64 0), .c (.int .u64 0), .c (.int .u64 0), .c (.int .u64 0), .c (.int .u64 0), .c (.int .u64 0), .c (.int .u64 0), .c (.int .u64 0), .c (.int .u64 0), .c (.int .u64 0), .c (.int .u64 0), .c (.int .u64 0), .c (.int .u64 0), .c (.int .u64 0), .c (.int .u64 0), .c (.int .u64 0), .c (.int .u64 0), .c (.int .u64 0), .c (.int .u64 0), .c (.int .u64 0), .c (.bool true)]) : Gives Try.prog 58 [.t (.ag [.n 6 x.1, .n 6 x.2, .n 6 y.1, .n 6 y.2, .c (.bool true)])] (.v (.bool false)) :=
  fn_gives (P := Try.prog) (env := [eIn2, eOut2, eTimes2, ePlus2, eSmP]) ⟨eIn2_ok, eOut2_ok, eTimes2_ok, ePlus2_ok, eSmP_ok, trivial⟩ Try.func58 1 (oL [(6, wO 1)]) (by kernel_rfl)
      (And.intro (show ¬ flat [.n 6 x.1, .n 6 x.2, .n 6 y.1, .n 6 y.2, .c (.bool true)] = flat [.c (.int .u64 0), .c (.int .u64 0), .c (.int .u64 0), .c (.int .u64 0), .c (.int .u64 0), .c (.int .u64 0), .c (.int .u64 0), .c (.int .u64 0), .c (.int .u64 0), .c (.int .u64 0), .c (.int .u64 0), .c (.int .u64 0), .c (.int .u64 0), .c (.int .u64 0), .c (.int .u64 0), .c (.int .u64 0), .c (.int .u64 0), .c (.int .u64 0), .c (.int .u64 0), .c (.int .u64 0), .c (.int .u64 0), .c (.int .u64 0), .c (.int .u64 0), .c (.int .u64 0), .c (.bool true)] from h) trivial)
theorem curve2_iff (x y : N2) : flat (m2 (mul2 (of2 y) (of2 y))) = flat (m2 (add2 (mul2 (mul2 (of2 x) (of2 x)) (of2 x)) (ofP (4 % 18446744073709551616), ofP (4 % 18446744073709551616)))) ↔ mul2 (of2 y) (of2 y) = rhs2 (of2 x) := by
  rw [show (4 % 18446744073709551616 : Nat) = 4 from rfl]
  unfold rhs2
  exact ⟨fun e => flat_m2_inj e, fun e => by rw [e]⟩
theorem on2_yes (a : A2) (hs : sml2 a) (h : may2 a) : Gives Try.prog 58 [.t (.ag [.n 6 a.1.1, .n 6 a.1.2, .n 6 a.2.1.1, .n 6 a.2.1.2, .c (.bool a.2.2)])] (.v (.bool true)) := by
  obtain ⟨x, y, b⟩ := a
  obtain ⟨hx, hy⟩ := hs
  cases b with
  | true => exact on2_inf x y ((flat_inf2 hx hy true).2 (by simpa only [may2, if_true] using h))
  | false =>
    have h : is2 x ∧ is2 y ∧ mul2 (of2 y) (of2 y) = rhs2 (of2 x) := h
    exact on2_ok x y hx hy ((flat_is2 hx).2 h.1) ((flat_is2 hy).2 h.2.1) ((curve2_iff x y).2 h.2.2)
theorem on2_not (a : A2) (hs : sml2 a) (h : ¬ may2 a) : Gives Try.prog 58 [.t (.ag [.n 6 a.1.1, .n 6 a.1.2, .n 6 a.2.1.1, .n 6 a.2.1.2, .c (.bool a.2.2)])] (.v (.bool false)) := by
  obtain ⟨x, y, b⟩ := a
  obtain ⟨hx, hy⟩ := hs
  cases b with
  | true => exact on2_noi x y (fun e => h (by simpa only [may2, if_true] using (flat_inf2 hx hy true).1 e))
  | false =>
    have h : ¬ (is2 x ∧ is2 y ∧ mul2 (of2 y) (of2 y) = rhs2 (of2 x)) := h
    by_cases h1 : is2 x
    · by_cases h2 : is2 y
      · exact on2_no3 x y hx hy ((flat_is2 hx).2 h1) ((flat_is2 hy).2 h2) (fun e => h ⟨h1, h2, (curve2_iff x y).1 e⟩)
      · exact on2_no2 x y hx hy ((flat_is2 hx).2 h1) (fun e => h2 ((flat_is2 hy).1 e))
    · exact on2_no1 x y hx hy (fun e => h1 ((flat_is2 hx).1 e))
def altR2 (a : A2) : Alts := [(some (sml2 a ∧ may2 a), .v (.bool true)), (some (sml2 a ∧ ¬ may2 a), .v (.bool false))]
theorem altR2_ok {f : FuncId} {args : A2 → List XV} (h1 : ∀ a, sml2 a → may2 a → Gives Try.prog f (args a) (.v (.bool true))) (h2 : ∀ a, sml2 a → ¬ may2 a → Gives Try.prog f (args a) (.v (.bool false))) : ∀ a c r, (c, r) ∈ altR2 a → c.getD True → Gives Try.prog f (args a) r := by
  intro a c r hm hc
  simp only [altR2, List.mem_cons, Prod.mk.injEq, List.not_mem_nil, or_false] at hm
  rcases hm with ⟨rfl, rfl⟩ | ⟨rfl, rfl⟩
  · exact h1 a hc.1 hc.2
  · exact h2 a hc.1 hc.2
def eOn2 : Entry := entry1 58 parA2.x altR2
theorem eOn2_ok : eOn2.OK Try.prog := entry1_ok (fun args w => Go.Proofs.enters_of (P := Try.prog) Try.func58 (by kernel_rfl) rfl args w) (altR2_ok on2_yes on2_not)
theorem may2_yes (a : A2) (hs : sml2 a) (h : may2 a) : Gives Try.prog 33 [.t (.ag [.n 6 a.1.1, .n 6 a.1.2, .n 6 a.2.1.1, .n 6 a.2.1.2, .c (.bool a.2.2)])] (.v (.bool true)) :=
  fn_gives (P := Try.prog) (env := [eOn2]) ⟨eOn2_ok, trivial⟩ Try.func33 0 (oL [(3, wO 0)]) (by kernel_rfl) (And.intro (show sml2 a ∧ may2 a from ⟨hs, h⟩) trivial)
theorem may2_not (a : A2) (hs : sml2 a) (h : ¬ may2 a) : Gives Try.prog 33 [.t (.ag [.n 6 a.1.1, .n 6 a.1.2, .n 6 a.2.1.1, .n 6 a.2.1.2, .c (.bool a.2.2)])] (.v (.bool false)) :=
  fn_gives (P := Try.prog) (env := [eOn2]) ⟨eOn2_ok, trivial⟩ Try.func33 0 (oL [(3, wO 1)]) (by kernel_rfl) (And.intro (show sml2 a ∧ ¬ may2 a from ⟨hs, h⟩) trivial)
def eRig2 : Entry := entry1 33 parA2.x altR2
theorem eRig2_ok : eRig2.OK Try.prog := entry1_ok (fun args w => Go.Proofs.enters_of (P := Try.prog) Try.func33 (by kernel_rfl) rfl args w) (altR2_ok may2_yes may2_not)
end Go.Proofs.Ytobgpmclgacbmaa

/- Contracts: numbers as bytes and back, the layer fp and its reference. -/
set_option linter.unusedSimpArgs false
set_option linter.unusedVariables false
namespace Go.Proofs.Ytobgpmclgacbmaa
open Go.Ev Go.RowKit

theorem nputP (x : Nat) : Gives Try.prog 36 [.rd [.n 6 x] 6 6] (.v (.string (ofL (beL 48 x)))) := by
  have h : beL 48 x = (List.range 48).map (fun k => UInt8.ofNat (IntKind.u8.wrap ((x / 18446744073709551616 ^ (6 - 1 - k / 8) % 18446744073709551616 / 2 ^ min (56 - 8 * (k % 8)) 64 % 18446744073709551616 : Nat) : Int)).toNat) := by
    rw [beL_range]
    refine List.map_congr_left fun k hk => ?_
    rw [List.mem_range] at hk
    rw [byte_put x _ _ (by omega), ← two_pow_256]
    congr 4
    omega
  rw [h]
  exact fn_gives_at (P := Try.prog) (X := rulesX _) (env := []) trivial Try.func36 4 o0 (by kernel_rfl) ⟨_, rfl⟩ trivial
def eNPutP : Entry := entry1 36 (XPar.rd 6 parN6 (fun _ => rfl)) (fun a => [(none, .v (.string (ofL (beL 48 a))))])
theorem eNPutP_ok : eNPutP.OK Try.prog := entry1_ok (fun args w => Go.Proofs.enters_of (P := Try.prog) Try.func36 (by kernel_rfl) rfl args w) (fun a => only (nputP a))
def eFPutP : Entry := entry1 13 par1P (fun a => [(some (smtP a), .v (.string (ofL (beL 48 (eltP a).val))))])
theorem eFPutP_ok : eFPutP.OK Try.prog := entry1_ok (fun args w => Go.Proofs.enters_of (P := Try.prog) Try.func13 (by kernel_rfl) rfl args w) (fun a => match a with
  | .inl a => onlyIf (fun h => fn_gives (P := Try.prog) (env := [eFCleanP, eNPutP]) ⟨eFCleanP_ok, eNPutP_ok, trivial⟩ Try.func13 0 o0 (by kernel_rfl) (And.intro h trivial))
  | .inr a => onlyIf (fun h => fn_gives (P := Try.prog) (env := [eFCleanP, eNPutP]) ⟨eFCleanP_ok, eNPutP_ok, trivial⟩ Try.func13 0 o0 (by kernel_rfl) (And.intro h trivial)))
/-- The limbs that the bytes make, as a number. -/
def numP (l : List UInt8) : Nat := pre l 5 8 % 18446744073709551616 + 18446744073709551616 * (pre l 4 8 % 18446744073709551616 + 18446744073709551616 * (pre l 3 8 % 18446744073709551616 + 18446744073709551616 * (pre l 2 8 % 18446744073709551616 + 18446744073709551616 * (pre l 1 8 % 18446744073709551616 + 18446744073709551616 * (pre l 0 8 % 18446744073709551616 + 18446744073709551616 * (0))))))
theorem numP_eq (l : List UInt8) : numP l = deN 48 l := by
  have e : deN 48 l = pre l 0 (8 * (0 + 6)) := rfl
  have l0 : pre l 0 8 < 18446744073709551616 := pre_lt l 0 8
  have l1 : pre l 1 8 < 18446744073709551616 := pre_lt l 1 8
  have l2 : pre l 2 8 < 18446744073709551616 := pre_lt l 2 8
  have l3 : pre l 3 8 < 18446744073709551616 := pre_lt l 3 8
  have l4 : pre l 4 8 < 18446744073709551616 := pre_lt l 4 8
  have l5 : pre l 5 8 < 18446744073709551616 := pre_lt l 5 8
  rw [e, show 8 * (0 + 6) = 8 * (5 + 1) from rfl, pre_eight, show 8 * 5 = 8 * (4 + 1) from rfl, pre_eight, show 8 * 4 = 8 * (3 + 1) from rfl, pre_eight, show 8 * 3 = 8 * (2 + 1) from rfl, pre_eight, show 8 * 2 = 8 * (1 + 1) from rfl, pre_eight, show 8 * 1 = 8 * (0 + 1) from rfl, pre_eight]
  unfold numP
  rw [Nat.mod_eq_of_lt l0]
  rw [Nat.mod_eq_of_lt l1]
  rw [Nat.mod_eq_of_lt l2]
  rw [Nat.mod_eq_of_lt l3]
  rw [Nat.mod_eq_of_lt l4]
  rw [Nat.mod_eq_of_lt l5]
  simp only [pre, Nat.mul_zero, Nat.zero_mul, Nat.zero_add]
  omega
theorem piecesP (l : List UInt8) (h : deN 48 l < 4002409555221667393417789825735904156556882819939007885332058136124031650490837864442687629129015664037894272559787) : (AV.tp [.ag [.n 1 (pre l 5 8), .n 1 (pre l 4 8), .n 1 (pre l 3 8), .n 1 (pre l 2 8), .n 1 (pre l 1 8), .n 1 (pre l 0 8)], .v (.int .i64 0)]).val? = (AV.tp [.ag [.q (ofP (deN 48 l))], .v (.int .i64 0)]).val? := by
  have e1 := cells64_ok 6 [.n 1 (pre l 5 8), .n 1 (pre l 4 8), .n 1 (pre l 3 8), .n 1 (pre l 2 8), .n 1 (pre l 1 8), .n 1 (pre l 0 8)] (numP l) [] rfl
  rw [numP_eq] at e1
  have e2 : flat [Ch.q (ofP (deN 48 l))] = limbs 6 (deN 48 l) := by simp only [flat, Ch.cells, List.append_nil]; rw [show (ofP (deN 48 l)).val = deN 48 l from Nat.mod_eq_of_lt h]
  have e3 : flat [.n 1 (pre l 5 8), .n 1 (pre l 4 8), .n 1 (pre l 3 8), .n 1 (pre l 2 8), .n 1 (pre l 1 8), .n 1 (pre l 0 8)] = flat [Ch.q (ofP (deN 48 l))] := by rw [e1, e2]; simp [flat]
  have e4 := ag_same (a := [.n 1 (pre l 5 8), .n 1 (pre l 4 8), .n 1 (pre l 3 8), .n 1 (pre l 2 8), .n 1 (pre l 1 8), .n 1 (pre l 0 8)]) (b := [Ch.q (ofP (deN 48 l))]) rfl rfl e3
  simp only [AV.val?, AV.vals?] at e4 ⊢
  rw [e4]
def osRGP (B : Nat → Nat) : List Ora := [rO 1 (B 0), rO 1 (B 1), rO 1 (B 2), rO 1 (B 3), rO 1 (B 4), rO 1 (B 5), rO 1 (B 6), rO 1 (B 7), rO 1 (B 8), rO 1 (B 9), rO 1 (B 10), rO 1 (B 11), rO 1 (B 12), rO 1 (B 13), rO 1 (B 14), rO 1 (B 15), rO 1 (B 16), rO 1 (B 17), rO 1 (B 18), rO 1 (B 19), rO 1 (B 20), rO 1 (B 21), rO 1 (B 22), rO 1 (B 23), rO 1 (B 24), rO 1 (B 25), rO 1 (B 26), rO 1 (B 27), rO 1 (B 28), rO 1 (B 29), rO 1 (B 30), rO 1 (B 31), rO 1 (B 32), rO 1 (B 33), rO 1 (B 34), rO 1 (B 35), rO 1 (B 36), rO 1 (B 37), rO 1 (B 38), rO 1 (B 39), rO 1 (B 40), rO 1 (B 41), rO 1 (B 42), rO 1 (B 43), rO 1 (B 44), rO 1 (B 45), rO 1 (B 46), rO 1 (B 47)]
def osCGP (B : Nat → Nat) : List Ora := [{ ch := 2, hi := fun _ => B 0 }, { ch := 2, hi := fun _ => B 1 }, { ch := 2, hi := fun _ => B 2 }, { ch := 2, hi := fun _ => B 3 }, { ch := 2, hi := fun _ => B 4 }, { ch := 2, hi := fun _ => B 5 }, { ch := 2, hi := fun _ => B 6 }, { ch := 2, hi := fun _ => B 7 }, { ch := 2, hi := fun _ => B 8 }, { ch := 2, hi := fun _ => B 9 }, { ch := 2, hi := fun _ => B 10 }, { ch := 2, hi := fun _ => B 11 }, { ch := 2, hi := fun _ => B 12 }, { ch := 2, hi := fun _ => B 13 }, { ch := 2, hi := fun _ => B 14 }, { ch := 2, hi := fun _ => B 15 }, { ch := 2, hi := fun _ => B 16 }, { ch := 2, hi := fun _ => B 17 }, { ch := 2, hi := fun _ => B 18 }, { ch := 2, hi := fun _ => B 19 }, { ch := 2, hi := fun _ => B 20 }, { ch := 2, hi := fun _ => B 21 }, { ch := 2, hi := fun _ => B 22 }, { ch := 2, hi := fun _ => B 23 }, { ch := 2, hi := fun _ => B 24 }, { ch := 2, hi := fun _ => B 25 }, { ch := 2, hi := fun _ => B 26 }, { ch := 2, hi := fun _ => B 27 }, { ch := 2, hi := fun _ => B 28 }, { ch := 2, hi := fun _ => B 29 }, { ch := 2, hi := fun _ => B 30 }, { ch := 2, hi := fun _ => B 31 }, { ch := 2, hi := fun _ => B 32 }, { ch := 2, hi := fun _ => B 33 }, { ch := 2, hi := fun _ => B 34 }, { ch := 2, hi := fun _ => B 35 }, { ch := 2, hi := fun _ => B 36 }, { ch := 2, hi := fun _ => B 37 }, { ch := 2, hi := fun _ => B 38 }, { ch := 2, hi := fun _ => B 39 }, { ch := 2, hi := fun _ => B 40 }, { ch := 2, hi := fun _ => B 41 }, { ch := 2, hi := fun _ => B 42 }, { ch := 2, hi := fun _ => B 43 }, { ch := 2, hi := fun _ => B 44 }, { ch := 2, hi := fun _ => B 45 }, { ch := 2, hi := fun _ => B 46 }, { ch := 2, hi := fun _ => B 47 }]
def osNGP (W : Nat → Nat → Nat) : List Ora := [{ ch := 1, hi := fun _ => W 0 1 }, { ch := 1, hi := fun _ => W 0 2 }, { ch := 1, hi := fun _ => W 0 3 }, { ch := 1, hi := fun _ => W 0 4 }, { ch := 1, hi := fun _ => W 0 5 }, { ch := 1, hi := fun _ => W 0 6 }, { ch := 1, hi := fun _ => W 0 7 }, { ch := 1, hi := fun _ => W 0 8 }, { ch := 1, hi := fun _ => W 1 1 }, { ch := 1, hi := fun _ => W 1 2 }, { ch := 1, hi := fun _ => W 1 3 }, { ch := 1, hi := fun _ => W 1 4 }, { ch := 1, hi := fun _ => W 1 5 }, { ch := 1, hi := fun _ => W 1 6 }, { ch := 1, hi := fun _ => W 1 7 }, { ch := 1, hi := fun _ => W 1 8 }, { ch := 1, hi := fun _ => W 2 1 }, { ch := 1, hi := fun _ => W 2 2 }, { ch := 1, hi := fun _ => W 2 3 }, { ch := 1, hi := fun _ => W 2 4 }, { ch := 1, hi := fun _ => W 2 5 }, { ch := 1, hi := fun _ => W 2 6 }, { ch := 1, hi := fun _ => W 2 7 }, { ch := 1, hi := fun _ => W 2 8 }, { ch := 1, hi := fun _ => W 3 1 }, { ch := 1, hi := fun _ => W 3 2 }, { ch := 1, hi := fun _ => W 3 3 }, { ch := 1, hi := fun _ => W 3 4 }, { ch := 1, hi := fun _ => W 3 5 }, { ch := 1, hi := fun _ => W 3 6 }, { ch := 1, hi := fun _ => W 3 7 }, { ch := 1, hi := fun _ => W 3 8 }, { ch := 1, hi := fun _ => W 4 1 }, { ch := 1, hi := fun _ => W 4 2 }, { ch := 1, hi := fun _ => W 4 3 }, { ch := 1, hi := fun _ => W 4 4 }, { ch := 1, hi := fun _ => W 4 5 }, { ch := 1, hi := fun _ => W 4 6 }, { ch := 1, hi := fun _ => W 4 7 }, { ch := 1, hi := fun _ => W 4 8 }, { ch := 1, hi := fun _ => W 5 1 }, { ch := 1, hi := fun _ => W 5 2 }, { ch := 1, hi := fun _ => W 5 3 }, { ch := 1, hi := fun _ => W 5 4 }, { ch := 1, hi := fun _ => W 5 5 }, { ch := 1, hi := fun _ => W 5 6 }, { ch := 1, hi := fun _ => W 5 7 }, { ch := 1, hi := fun _ => W 5 8 }]
def osGP (B : Nat → Nat) (W : Nat → Nat → Nat) (last : List (Nat × Ora)) : Nat → Ora := fun id =>
  match lookL [3, 10, 14, 25] id with
  | true => nV 48
  | false =>
    match Nat.ble 45 id, Nat.blt id 1228 with
    | true, true => (match (id - 45) % 25 with
      | 0 => selO (osRGP B) ((id - 45) / 25)
      | 1 => selO (osCGP B) ((id - 45) / 25)
      | 2 => selO (osNGP W) ((id - 45) / 25)
      | _ => { ch := 0, hi := fun _ => 0 })
    | _, _ => oL last id
theorem num_ltP (l : List UInt8) : numP l < 39402006196394479212279040100143613805079739270465446667948293404245721771497210611414266254884915640806627990306816 := by rw [numP_eq]; exact deN_lt 48 l
set_option maxRecDepth 100000 in
theorem fgetP_okW (l : List UInt8) (B : Nat → Nat) (W : Nat → Nat → Nat) (h : l.length = 48) (hR : ∀ i : Nat, i < 48 → (0 : Int) ≤ (i : Int) ∧ (i : Int) < (ofL l).size ∧ ((ofL l)[(i : Int).toNat]?.getD 0).toNat = B i) (hC : ∀ i, IntKind.u64 = IntKind.u64 ∧ IntKind.u64.wrap ((B i : Nat) : Int) = ((B i % 18446744073709551616 : Nat) : Int)) (h0 : ∀ k, (0 ||| B (8 * k + 0) % 18446744073709551616) % 18446744073709551616 = W k 1 % 18446744073709551616) (h1 : ∀ k m, m < 8 → (W k m / 18446744073709551616 ^ 0 * 2 ^ min 8 64 % 18446744073709551616 ||| B (8 * k + m) % 18446744073709551616) % 18446744073709551616 = W k (m + 1) % 18446744073709551616) (hN : (W 5 8 % 18446744073709551616 + 18446744073709551616 * (W 4 8 % 18446744073709551616 + 18446744073709551616 * (W 3 8 % 18446744073709551616 + 18446744073709551616 * (W 2 8 % 18446744073709551616 + 18446744073709551616 * (W 1 8 % 18446744073709551616 + 18446744073709551616 * (W 0 8 % 18446744073709551616 + 18446744073709551616 * (0))))))) < 39402006196394479212279040100143613805079739270465446667948293404245721771497210611414266254884915640806627990306816 ∧ (W 5 8 % 18446744073709551616 + 18446744073709551616 * (W 4 8 % 18446744073709551616 + 18446744073709551616 * (W 3 8 % 18446744073709551616 + 18446744073709551616 * (W 2 8 % 18446744073709551616 + 18446744073709551616 * (W 1 8 % 18446744073709551616 + 18446744073709551616 * (W 0 8 % 18446744073709551616 + 18446744073709551616 * (0))))))) < 4002409555221667393417789825735904156556882819939007885332058136124031650490837864442687629129015664037894272559787) : Gives Try.prog 44 [.t (.v (.string (ofL l)))] (.tp [.ag [.n 1 (W 5 8), .n 1 (W 4 8), .n 1 (W 3 8), .n 1 (W 2 8), .n 1 (W 1 8), .n 1 (W 0 8)], .v (.int .i64 0)]) :=
  fn_gives_at (P := Try.prog) (X := rulesX _) (env := [eFRightP]) ⟨eFRightP_ok, trivial⟩ Try.func44 1 (osGP B W [(1244, wO 0)]) (by kernel_rfl) ⟨_, rfl⟩
    (And.intro (hN) (And.intro (h1 5 7 (by decide)) (And.intro (hC 47) (And.intro (hR 47 (by decide)) (And.intro (h1 5 6 (by decide)) (And.intro (hC 46) (And.intro (hR 46 (by decide)) (And.intro (h1 5 5 (by decide)) (And.intro (hC 45) (And.intro (hR 45 (by decide)) (And.intro (h1 5 4 (by decide)) (And.intro (hC 44) (And.intro (hR 44 (by decide)) (And.intro (h1 5 3 (by decide)) (And.intro (hC 43) (And.intro (hR 43 (by decide)) (And.intro (h1 5 2 (by decide)) (And.intro (hC 42) (And.intro (hR 42 (by decide)) (And.intro (h1 5 1 (by decide)) (And.intro (hC 41) (And.intro (hR 41 (by decide)) (And.intro (h0 5) (And.intro (hC 40) (And.intro (hR 40 (by decide)) (And.intro (h1 4 7 (by decide)) (And.intro (hC 39) (And.intro (hR 39 (by decide)) (And.intro (h1 4 6 (by decide)) (And.intro (hC 38) (And.intro (hR 38 (by decide)) (And.intro (h1 4 5 (by decide)) (And.intro (hC 37) (And.intro (hR 37 (by decide)) (And.intro (h1 4 4 (by decide)) (And.intro (hC 36) (And.intro (hR 36 (by decide)) (And.intro (h1 4 3 (by decide)) (And.intro (hC 35) (And.intro (hR 35 (by decide)) (And.intro (h1 4 2 (by decide)) (And.intro (hC 34) (And.intro (hR 34 (by decide)) (And.intro (h1 4 1 (by decide)) (And.intro (hC 33) (And.intro (hR 33 (by decide)) (And.intro (h0 4) (And.intro (hC 32) (And.intro (hR 32 (by decide)) (And.intro (h1 3 7 (by decide)) (And.intro (hC 31) (And.intro (hR 31 (by decide)) (And.intro (h1 3 6 (by decide)) (And.intro (hC 30) (And.intro (hR 30 (by decide)) (And.intro (h1 3 5 (by decide)) (And.intro (hC 29) (And.intro (hR 29 (by decide)) (And.intro (h1 3 4 (by decide)) (And.intro (hC 28) (And.intro (hR 28 (by decide)) (And.intro (h1 3 3 (by decide)) (And.intro (hC 27) (And.intro (hR 27 (by decide)) (And.intro (h1 3 2 (by decide)) (And.intro (hC 26) (And.intro (hR 26 (by decide)) (And.intro (h1 3 1 (by decide)) (And.intro (hC 25) (And.intro (hR 25 (by decide)) (And.intro (h0 3) (And.intro (hC 24) (And.intro (hR 24 (by decide)) (And.intro (h1 2 7 (by decide)) (And.intro (hC 23) (And.intro (hR 23 (by decide)) (And.intro (h1 2 6 (by decide)) (And.intro (hC 22) (And.intro (hR 22 (by decide)) (And.intro (h1 2 5 (by decide)) (And.intro (hC 21) (And.intro (hR 21 (by decide)) (And.intro (h1 2 4 (by decide)) (And.intro (hC 20) (And.intro (hR 20 (by decide)) (And.intro (h1 2 3 (by decide)) (And.intro (hC 19) (And.intro (hR 19 (by decide)) (And.intro (h1 2 2 (by decide)) (And.intro (hC 18) (And.intro (hR 18 (by decide)) (And.intro (h1 2 1 (by decide)) (And.intro (hC 17) (And.intro (hR 17 (by decide)) (And.intro (h0 2) (And.intro (hC 16) (And.intro (hR 16 (by decide)) (And.intro (h1 1 7 (by decide)) (And.intro (hC 15) (And.intro (hR 15 (by decide)) (And.intro (h1 1 6 (by decide)) (And.intro (hC 14) (And.intro (hR 14 (by decide)) (And.intro (h1 1 5 (by decide)) (And.intro (hC 13) (And.intro (hR 13 (by decide)) (And.intro (h1 1 4 (by decide)) (And.intro (hC 12) (And.intro (hR 12 (by decide)) (And.intro (h1 1 3 (by decide)) (And.intro (hC 11) (And.intro (hR 11 (by decide)) (And.intro (h1 1 2 (by decide)) (And.intro (hC 10) (And.intro (hR 10 (by decide)) (And.intro (h1 1 1 (by decide)) (And.intro (hC 9) (And.intro (hR 9 (by decide)) (And.intro (h0 1) (And.intro (hC 8) (And.intro (hR 8 (by decide)) (And.intro (h1 0 7 (by decide)) (And.intro (hC 7) (And.intro (hR 7 (by decide)) (And.intro (h1 0 6 (by decide)) (And.intro (hC 6) (And.intro (hR 6 (by decide)) (And.intro (h1 0 5 (by decide)) (And.intro (hC 5) (And.intro (hR 5 (by decide)) (And.intro (h1 0 4 (by decide)) (And.intro (hC 4) (And.intro (hR 4 (by decide)) (And.intro (h1 0 3 (by decide)) (And.intro (hC 3) (And.intro (hR 3 (by decide)) (And.intro (h1 0 2 (by decide)) (And.intro (hC 2) (And.intro (hR 2 (by decide)) (And.intro (h1 0 1 (by decide)) (And.intro (hC 1) (And.intro (hR 1 (by decide)) (And.intro (h0 0) (And.intro (hC 0) (And.intro (hR 0 (by decide)) (And.intro (show ((l.length : Nat) : Int) = ((48 : Nat) : Int) from by rw [h]) (And.intro (show ((l.length : Nat) : Int) = ((48 : Nat) : Int) from by rw [h]) (And.intro (show ((l.length : Nat) : Int) = ((48 : Nat) : Int) from by rw [h]) (And.intro (show ((l.length : Nat) : Int) = ((48 : Nat) : Int) from by rw [h]) trivial)))))))))))))))))))))))))))))))))))))))))))))))))))))))))))))))))))))))))))))))))))))))))))))))))))))))))))))))))))))))))))))))))))))))))))))))))))))
set_option maxRecDepth 100000 in
theorem fgetP_noW (l : List UInt8) (B : Nat → Nat) (W : Nat → Nat → Nat) (h : l.length = 48) (hR : ∀ i : Nat, i < 48 → (0 : Int) ≤ (i : Int) ∧ (i : Int) < (ofL l).size ∧ ((ofL l)[(i : Int).toNat]?.getD 0).toNat = B i) (hC : ∀ i, IntKind.u64 = IntKind.u64 ∧ IntKind.u64.wrap ((B i : Nat) : Int) = ((B i % 18446744073709551616 : Nat) : Int)) (h0 : ∀ k, (0 ||| B (8 * k + 0) % 18446744073709551616) % 18446744073709551616 = W k 1 % 18446744073709551616) (h1 : ∀ k m, m < 8 → (W k m / 18446744073709551616 ^ 0 * 2 ^ min 8 64 % 18446744073709551616 ||| B (8 * k + m) % 18446744073709551616) % 18446744073709551616 = W k (m + 1) % 18446744073709551616) (hN : (W 5 8 % 18446744073709551616 + 18446744073709551616 * (W 4 8 % 18446744073709551616 + 18446744073709551616 * (W 3 8 % 18446744073709551616 + 18446744073709551616 * (W 2 8 % 18446744073709551616 + 18446744073709551616 * (W 1 8 % 18446744073709551616 + 18446744073709551616 * (W 0 8 % 18446744073709551616 + 18446744073709551616 * (0))))))) < 39402006196394479212279040100143613805079739270465446667948293404245721771497210611414266254884915640806627990306816 ∧ 4002409555221667393417789825735904156556882819939007885332058136124031650490837864442687629129015664037894272559787 ≤ (W 5 8 % 18446744073709551616 + 18446744073709551616 * (W 4 8 % 18446744073709551616 + 18446744073709551616 * (W 3 8 % 18446744073709551616 + 18446744073709551616 * (W 2 8 % 18446744073709551616 + 18446744073709551616 * (W 1 8 % 18446744073709551616 + 18446744073709551616 * (W 0 8 % 18446744073709551616 + 18446744073709551616 * (0)))))))) : Gives Try.prog 44 [.t (.v (.string (ofL l)))] (.tp [.ag [.c (.int .u64 0), .c (.int .u64 0), .c (.int .u64 0), .c (.int .u64 0), .c (.int .u64 0), .c (.int .u64 0)], .v (.int .i64 20)]) :=
  fn_gives_at (P := Try.prog) (X := rulesX _) (env := [eFRightP]) ⟨eFRightP_ok, trivial⟩ Try.func44 1 (osGP B W [(1244, wO 1)]) (by kernel_rfl) ⟨_, rfl⟩
    (And.intro (hN) (And.intro (h1 5 7 (by decide)) (And.intro (hC 47) (And.intro (hR 47 (by decide)) (And.intro (h1 5 6 (by decide)) (And.intro (hC 46) (And.intro (hR 46 (by decide)) (And.intro (h1 5 5 (by decide)) (And.intro (hC 45) (And.intro (hR 45 (by decide)) (And.intro (h1 5 4 (by decide)) (And.intro (hC 44) (And.intro (hR 44 (by decide)) (And.intro (h1 5 3 (by decide)) (And.intro (hC 43) (And.intro (hR 43 (by decide)) (And.intro (h1 5 2 (by decide)) (And.intro (hC 42) (And.intro (hR 42 (by decide)) (And.intro (h1 5 1 (by decide)) (And.intro (hC 41) (And.intro (hR 41 (by decide)) (And.intro (h0 5) (And.intro (hC 40) (And.intro (hR 40 (by decide)) (And.intro (h1 4 7 (by decide)) (And.intro (hC 39) (And.intro (hR 39 (by decide)) (And.intro (h1 4 6 (by decide)) (And.intro (hC 38) (And.intro (hR 38 (by decide)) (And.intro (h1 4 5 (by decide)) (And.intro (hC 37) (And.intro (hR 37 (by decide)) (And.intro (h1 4 4 (by decide)) (And.intro (hC 36) (And.intro (hR 36 (by decide)) (And.intro (h1 4 3 (by decide)) (And.intro (hC 35) (And.intro (hR 35 (by decide)) (And.intro (h1 4 2 (by decide)) (And.intro (hC 34) (And.intro (hR 34 (by decide)) (And.intro (h1 4 1 (by decide)) (And.intro (hC 33) (And.intro (hR 33 (by decide)) (And.intro (h0 4) (And.intro (hC 32) (And.intro (hR 32 (by decide)) (And.intro (h1 3 7 (by decide)) (And.intro (hC 31) (And.intro (hR 31 (by decide)) (And.intro (h1 3 6 (by decide)) (And.intro (hC 30) (And.intro (hR 30 (by decide)) (And.intro (h1 3 5 (by decide)) (And.intro (hC 29) (And.intro (hR 29 (by decide)) (And.intro (h1 3 4 (by decide)) (And.intro (hC 28) (And.intro (hR 28 (by decide)) (And.intro (h1 3 3 (by decide)) (And.intro (hC 27) (And.intro (hR 27 (by decide)) (And.intro (h1 3 2 (by decide)) (And.intro (hC 26) (And.intro (hR 26 (by decide)) (And.intro (h1 3 1 (by decide)) (And.intro (hC 25) (And.intro (hR 25 (by decide)) (And.intro (h0 3) (And.intro (hC 24) (And.intro (hR 24 (by decide)) (And.intro (h1 2 7 (by decide)) (And.intro (hC 23) (And.intro (hR 23 (by decide)) (And.intro (h1 2 6 (by decide)) (And.intro (hC 22) (And.intro (hR 22 (by decide)) (And.intro (h1 2 5 (by decide)) (And.intro (hC 21) (And.intro (hR 21 (by decide)) (And.intro (h1 2 4 (by decide)) (And.intro (hC 20) (And.intro (hR 20 (by decide)) (And.intro (h1 2 3 (by decide)) (And.intro (hC 19) (And.intro (hR 19 (by decide)) (And.intro (h1 2 2 (by decide)) (And.intro (hC 18) (And.intro (hR 18 (by decide)) (And.intro (h1 2 1 (by decide)) (And.intro (hC 17) (And.intro (hR 17 (by decide)) (And.intro (h0 2) (And.intro (hC 16) (And.intro (hR 16 (by decide)) (And.intro (h1 1 7 (by decide)) (And.intro (hC 15) (And.intro (hR 15 (by decide)) (And.intro (h1 1 6 (by decide)) (And.intro (hC 14) (And.intro (hR 14 (by decide)) (And.intro (h1 1 5 (by decide)) (And.intro (hC 13) (And.intro (hR 13 (by decide)) (And.intro (h1 1 4 (by decide)) (And.intro (hC 12) (And.intro (hR 12 (by decide)) (And.intro (h1 1 3 (by decide)) (And.intro (hC 11) (And.intro (hR 11 (by decide)) (And.intro (h1 1 2 (by decide)) (And.intro (hC 10) (And.intro (hR 10 (by decide)) (And.intro (h1 1 1 (by decide)) (And.intro (hC 9) (And.intro (hR 9 (by decide)) (And.intro (h0 1) (And.intro (hC 8) (And.intro (hR 8 (by decide)) (And.intro (h1 0 7 (by decide)) (And.intro (hC 7) (And.intro (hR 7 (by decide)) (And.intro (h1 0 6 (by decide)) (And.intro (hC 6) (And.intro (hR 6 (by decide)) (And.intro (h1 0 5 (by decide)) (And.intro (hC 5) (And.intro (hR 5 (by decide)) (And.intro (h1 0 4 (by decide)) (And.intro (hC 4) (And.intro (hR 4 (by decide)) (And.intro (h1 0 3 (by decide)) (And.intro (hC 3) (And.intro (hR 3 (by decide)) (And.intro (h1 0 2 (by decide)) (And.intro (hC 2) (And.intro (hR 2 (by decide)) (And.intro (h1 0 1 (by decide)) (And.intro (hC 1) (And.intro (hR 1 (by decide)) (And.intro (h0 0) (And.intro (hC 0) (And.intro (hR 0 (by decide)) (And.intro (show ((l.length : Nat) : Int) = ((48 : Nat) : Int) from by rw [h]) (And.intro (show ((l.length : Nat) : Int) = ((48 : Nat) : Int) from by rw [h]) (And.intro (show ((l.length : Nat) : Int) = ((48 : Nat) : Int) from by rw [h]) (And.intro (show ((l.length : Nat) : Int) = ((48 : Nat) : Int) from by rw [h]) trivial)))))))))))))))))))))))))))))))))))))))))))))))))))))))))))))))))))))))))))))))))))))))))))))))))))))))))))))))))))))))))))))))))))))))))))))))))))))
theorem fgetP_ok (l : List UInt8) (h : l.length = 48) (hp : deN 48 l < 4002409555221667393417789825735904156556882819939007885332058136124031650490837864442687629129015664037894272559787) : Gives Try.prog 44 [.t (.v (.string (ofL l)))] (.tp [.ag [.q (ofP (deN 48 l))], .v (.int .i64 0)]) :=
  Gives.same (fgetP_okW l (byt l) (pre l) h (fun i hi => read_byte l 48 i h hi) (conv_byte l) (pre_or0 l) (fun k m hm => by rw [Nat.pow_zero, Nat.div_one]; exact pre_or l k m hm) (show numP l < 39402006196394479212279040100143613805079739270465446667948293404245721771497210611414266254884915640806627990306816 ∧ numP l < 4002409555221667393417789825735904156556882819939007885332058136124031650490837864442687629129015664037894272559787 from ⟨num_ltP l, by rw [numP_eq]; exact hp⟩)) (piecesP l hp).symm
theorem fgetP_no (l : List UInt8) (h : l.length = 48) (hp : 4002409555221667393417789825735904156556882819939007885332058136124031650490837864442687629129015664037894272559787 ≤ deN 48 l) : Gives Try.prog 44 [.t (.v (.string (ofL l)))] (.tp [.ag [.c (.int .u64 0), .c (.int .u64 0), .c (.int .u64 0), .c (.int .u64 0), .c (.int .u64 0), .c (.int .u64 0)], .v (.int .i64 20)]) :=
  fgetP_noW l (byt l) (pre l) h (fun i hi => read_byte l 48 i h hi) (conv_byte l) (pre_or0 l) (fun k m hm => by rw [Nat.pow_zero, Nat.div_one]; exact pre_or l k m hm) (show numP l < 39402006196394479212279040100143613805079739270465446667948293404245721771497210611414266254884915640806627990306816 ∧ 4002409555221667393417789825735904156556882819939007885332058136124031650490837864442687629129015664037894272559787 ≤ numP l from ⟨num_ltP l, by rw [numP_eq]; exact hp⟩)
theorem fgetP_len (l : List UInt8) (h : l.length ≠ 48) : Gives Try.prog 44 [.t (.v (.string (ofL l)))] (.tp [.ag [.c (.int .u64 0), .c (.int .u64 0), .c (.int .u64 0), .c (.int .u64 0), .c (.int .u64 0), .c (.int .u64 0)], .v (.int .i64 3)]) := by
  exact fn_gives_at (P := Try.prog) (X := rulesX _) (env := [eFRightP]) ⟨eFRightP_ok, trivial⟩ Try.func44 1 (oL [(4, wT)]) (by kernel_rfl) ⟨_, rfl⟩
    (And.intro (show ((((l.length : Nat) : Int) != 48) = true) from by simp; omega) trivial)
def efgetP : Entry := entry1 44 XPar.str (fun l => [(some (l.length ≠ 48), .tp [.ag [.c (.int .u64 0), .c (.int .u64 0), .c (.int .u64 0), .c (.int .u64 0), .c (.int .u64 0), .c (.int .u64 0)], .v (.int .i64 3)]), (some (l.length = 48 ∧ deN 48 l < 4002409555221667393417789825735904156556882819939007885332058136124031650490837864442687629129015664037894272559787), .tp [.ag [.q (ofP (deN 48 l))], .v (.int .i64 0)]), (some (l.length = 48 ∧ 4002409555221667393417789825735904156556882819939007885332058136124031650490837864442687629129015664037894272559787 ≤ deN 48 l), .tp [.ag [.c (.int .u64 0), .c (.int .u64 0), .c (.int .u64 0), .c (.int .u64 0), .c (.int .u64 0), .c (.int .u64 0)], .v (.int .i64 20)])])
theorem efgetP_ok : efgetP.OK Try.prog := entry1_ok (fun args w => Go.Proofs.enters_of (P := Try.prog) Try.func44 (by kernel_rfl) rfl args w) (fun l c r hm hc => by
  simp only [List.mem_cons, Prod.mk.injEq, List.not_mem_nil, or_false] at hm
  rcases hm with ⟨rfl, rfl⟩ | ⟨rfl, rfl⟩ | ⟨rfl, rfl⟩
  · exact fgetP_len l hc
  · exact fgetP_ok l hc.1 hc.2
  · exact fgetP_no l hc.1 hc.2)
end Go.Proofs.Ytobgpmclgacbmaa

/- Contract of point.flagged: bytes with flags in the first one. -/
set_option linter.unusedVariables false
namespace Go.Proofs.Ytobgpmclgacbmaa
open Go.Ev Go.RowKit
theorem cell_new1 (w : World) (v : Value) (t : TypeId) : (w.alloc (Obj.cells #[v] t)).drew.cell? ⟨w.heap.size, 0, none⟩ = some v := by
  show (w.alloc (Obj.cells #[v] t)).cell? ⟨w.heap.size, 0, none⟩ = some v
  rw [World.cell?_alloc_new]
  rfl
theorem conv_one (w w1 : World) (b : Nat) (n : Int) (h : w1.cell? ⟨b, 0, none⟩ = some (.int .u8 n)) : (convert 82 9 (.slice (some ⟨b, 0, none⟩) 1 1)).run Try.prog w1 = .ok (.string ⟨#[UInt8.ofNat n.toNat]⟩) w1 := by
  rw [run_convert_bytes_string w1 _ _ 5 _ _ _ Try.underlying82 Try.underlying5 Try.underlying9]
  have h1 := run_loadCells_list (P := Try.prog) w1 ⟨b, 0, none⟩ [.int .u8 n] (fun j v hj => by
    match j, hj with
    | 0, hj => simp at hj; subst hj; simpa [Addr.add] using h)
  rw [run_bytesToString w1 _ 1 1 [n] h1]
  rfl
set_option maxRecDepth 100000 in
theorem flagged_walk (s : ByteArray) (f : Int) (w : World) (hs : 0 < s.size) (h63 : s.size ≤ 1000) : Calls Try.prog 62 #[.string s, .int .u8 f] w fun e w' => e = .returned (.string (⟨#[UInt8.ofNat (bits BinOp.or IntKind.u8 (s[0].toNat : Int) f).toNat]⟩ ++ s.extract 1 s.size)) ∧ Below w.heap.size w w' := by
  have hc := conv_one w (w.alloc (Obj.cells #[Value.int IntKind.u8 (bits BinOp.or IntKind.u8 (↑s[0].toNat) f)] 5)).drew w.heap.size _ (cell_new1 w _ _)
  go_enter Try.func62, Try.ntmps62
  go_wp2
  go_region
  go_wp2
  go_ret
  exact ⟨rfl, ((Below.refl _ _).alloc (Nat.le_refl _) _).drew⟩
theorem flgI_ok (l : List UInt8) (f : Int) (h : 0 < (ofL l).size) : (⟨#[UInt8.ofNat (bits BinOp.or IntKind.u8 ((ofL l)[0].toNat : Int) f).toNat]⟩ : ByteArray) ++ (ofL l).extract 1 (ofL l).size = ofL (flgI l f) := by
  match l, h with
  | b :: r, h =>
    apply ByteArray.ext
    apply Array.toList_inj.1
    rw [ByteArray.data_append, ByteArray.data_extract]
    show (#[UInt8.ofNat (bits BinOp.or IntKind.u8 (b.toNat : Int) f).toNat] ++ (b :: r).toArray.extract 1 (b :: r).toArray.size).toList = (UInt8.ofNat (bits BinOp.or IntKind.u8 (b.toNat : Int) f).toNat :: r)
    simp
def eFlag : Entry := entry2 62 XPar.str (XPar.int .u8) (fun l f => [(some (0 < l.length ∧ l.length ≤ 1000), .v (.string (ofL (flgI l f))))])
theorem eFlag_ok : eFlag.OK Try.prog := entry2_ok (fun args w => Go.Proofs.enters_of (P := Try.prog) Try.func62 (by kernel_rfl) rfl args w) (fun l f c r hm hc => by
  simp only [List.mem_cons, Prod.mk.injEq, List.not_mem_nil, or_false] at hm
  obtain ⟨rfl, rfl⟩ := hm
  refine ⟨_, rfl, fun w vs hx => ?_⟩
  match vs, hx with
  | [p, q], hx =>
    have h1 : p = .string (ofL l) := (Option.some.inj (hx.1 : some (Value.string (ofL l)) = some p)).symm
    subst h1
    have h2 : q = .int .u8 f := (Option.some.inj (hx.2.1 : some (Value.int .u8 f) = some q)).symm
    subst h2
    have h := flagged_walk (ofL l) f w hc.1 hc.2
    rw [flgI_ok l f hc.1] at h
    exact h)
/-! ### The reference -/
theorem flat_cy (v : Value) (r : List UInt8) : flat [.c v, .y r] = v :: r.map byteV := by simp [flat, Ch.cells]
theorem take_all (v : Value) (b : UInt8) (r : List UInt8) : (flat [.c v, .y r]).take (ofL (b :: r)).size = v :: r.map byteV := by
  rw [flat_cy]
  exact List.take_of_length_le (Nat.le_of_eq (by simp only [List.length_cons, List.length_map]; rfl))
end Go.Proofs.Ytobgpmclgacbmaa

/- Contracts: points of curve 2 as bytes; the reference. -/
set_option linter.unusedSimpArgs false
set_option linter.unusedVariables false
namespace Go.Proofs.Ytobgpmclgacbmaa
open Go.Ev Go.RowKit

end Go.Proofs.Ytobgpmclgacbmaa

/- Contracts of the points of curve 1: doubles, sums, multiples. -/
set_option linter.unusedSimpArgs false
set_option linter.unusedVariables false
namespace Go.Proofs.Ytobgpmclgacbmaa
open Go.Ev Go.RowKit

def pc1 (p : Pt1) : List Ch := [.m (p).1, .m (p).2.1, .m (p).2.2]
def parPt1 : Par Pt1 := (parM.pair (parM.pair parM))
def eIsZ1 : Entry := eIsZeroP
theorem eIsZ1_ok : eIsZ1.OK Try.prog := eIsZeroP_ok
theorem twice1_0 (p : Pt1) (h : p.2.2 = 0) : Gives Try.prog 40 [.t (.ag (pc1 p))] (.ag (pc1 (twc1 p))) := by
  unfold twc1
  rw [if_pos h]
  exact fn_gives (P := Try.prog) (env := [eIsZ1, ePlusP, eMinusP, eTimesP]) ⟨eIsZ1_ok, ePlusP_ok, eMinusP_ok, eTimesP_ok, trivial⟩ Try.func40 0 (oL [(5, wO 0)]) (by kernel_rfl) (And.intro h trivial)
theorem twice1_1 (p : Pt1) (h : p.2.2 ≠ 0) : Gives Try.prog 40 [.t (.ag (pc1 p))] (.ag (pc1 (twc1 p))) := by
  unfold twc1
  rw [if_neg h]
  exact fn_gives (P := Try.prog) (env := [eIsZ1, ePlusP, eMinusP, eTimesP]) ⟨eIsZ1_ok, ePlusP_ok, eMinusP_ok, eTimesP_ok, trivial⟩ Try.func40 0 (oL [(5, wO 1)]) (by kernel_rfl) (And.intro h trivial)
def eTwice1 : Entry := entry1 40 parPt1.x (fun p => [(none, .ag (pc1 (twc1 p)))])
theorem eTwice1_ok : eTwice1.OK Try.prog := entry1_ok (fun args w => Go.Proofs.enters_of (P := Try.prog) Try.func40 (by kernel_rfl) rfl args w) (fun p => only (by
  by_cases h : p.2.2 = 0
  · exact twice1_0 p h
  · exact twice1_1 p h))
theorem plus1 (p q : Pt1) : Gives Try.prog 31 [.t (.ag (pc1 p)), .t (.ag (pc1 q))] (.ag (pc1 (sum1 p q))) := by
  unfold sum1
  by_cases h1 : p.2.2 = 0
  · rw [if_pos h1]
    exact fn_gives (P := Try.prog) (env := [eIsZ1, eTwice1, ePlusP, eMinusP, eTimesP]) ⟨eIsZ1_ok, eTwice1_ok, ePlusP_ok, eMinusP_ok, eTimesP_ok, trivial⟩ Try.func31 0 (oL [(6, wO 0)]) (by kernel_rfl) (And.intro h1 trivial)
  · rw [if_neg h1]
    by_cases h2 : q.2.2 = 0
    · rw [if_pos h2]
      exact fn_gives (P := Try.prog) (env := [eIsZ1, eTwice1, ePlusP, eMinusP, eTimesP]) ⟨eIsZ1_ok, eTwice1_ok, ePlusP_ok, eMinusP_ok, eTimesP_ok, trivial⟩ Try.func31 0 (oL [(6, wO 1), (11, wO 0)]) (by kernel_rfl) (And.intro h2 (And.intro h1 trivial))
    · rw [if_neg h2]
      by_cases h3 : hP1 p q = 0
      · rw [if_pos h3]
        by_cases h4 : rP1 p q = 0
        · rw [if_pos h4]
          exact fn_gives (P := Try.prog) (env := [eIsZ1, eTwice1, ePlusP, eMinusP, eTimesP]) ⟨eIsZ1_ok, eTwice1_ok, ePlusP_ok, eMinusP_ok, eTimesP_ok, trivial⟩ Try.func31 0 (oL [(6, wO 1), (11, wO 1), (79, wO 0), (82, wO 0)]) (by kernel_rfl) (And.intro h4 (And.intro h3 (And.intro h2 (And.intro h1 trivial))))
        · rw [if_neg h4]
          refine Gives.same (r := .ag ([.m p.1, .m p.2.1, .c (.int .u64 0), .c (.int .u64 0), .c (.int .u64 0), .c (.int .u64 0), .c (.int .u64 0), .c (.int .u64 0)])) (fn_gives (P := Try.prog) (env := [eIsZ1, eTwice1, ePlusP, eMinusP, eTimesP]) ⟨eIsZ1_ok, eTwice1_ok, ePlusP_ok, eMinusP_ok, eTimesP_ok, trivial⟩ Try.func31 0 (oL [(6, wO 1), (11, wO 1), (79, wO 0), (82, wO 1)]) (by kernel_rfl) (And.intro h4 (And.intro h3 (And.intro h2 (And.intro h1 trivial))))) (ag_same rfl rfl ?_)
          show flat ([.m p.1, .m p.2.1] ++ [.m (0 : Fin Pp)]) = flat ([.m p.1, .m p.2.1] ++ [.c (.int .u64 0), .c (.int .u64 0), .c (.int .u64 0), .c (.int .u64 0), .c (.int .u64 0), .c (.int .u64 0)])
          rw [flat_append, flat_append, zero_m]
      · rw [if_neg h3]
        exact fn_gives (P := Try.prog) (env := [eIsZ1, eTwice1, ePlusP, eMinusP, eTimesP]) ⟨eIsZ1_ok, eTwice1_ok, ePlusP_ok, eMinusP_ok, eTimesP_ok, trivial⟩ Try.func31 0 (oL [(6, wO 1), (11, wO 1), (79, wO 1)]) (by kernel_rfl) (And.intro h3 (And.intro h2 (And.intro h1 trivial)))
def ePlusC1 : Entry := entry2 31 parPt1.x parPt1.x (fun p q => [(none, .ag (pc1 (sum1 p q)))])
theorem ePlusC1_ok : ePlusC1.OK Try.prog := entry2_ok (fun args w => Go.Proofs.enters_of (P := Try.prog) Try.func31 (by kernel_rfl) rfl args w) (fun p q => only (plus1 p q))

/-! ### Multiples -/
def tabC1 (p : Pt1) : List Ch := [.m p.1, .m p.2.1, .c (.int .u64 0), .c (.int .u64 0), .c (.int .u64 0), .c (.int .u64 0), .c (.int .u64 0), .c (.int .u64 0), .m (tab1 p 1).1, .m (tab1 p 1).2.1, .m (tab1 p 1).2.2, .m (tab1 p 2).1, .m (tab1 p 2).2.1, .m (tab1 p 2).2.2, .m (tab1 p 3).1, .m (tab1 p 3).2.1, .m (tab1 p 3).2.2, .m (tab1 p 4).1, .m (tab1 p 4).2.1, .m (tab1 p 4).2.2, .m (tab1 p 5).1, .m (tab1 p 5).2.1, .m (tab1 p 5).2.2, .m (tab1 p 6).1, .m (tab1 p 6).2.1, .m (tab1 p 6).2.2, .m (tab1 p 7).1, .m (tab1 p 7).2.1, .m (tab1 p 7).2.2, .m (tab1 p 8).1, .m (tab1 p 8).2.1, .m (tab1 p 8).2.2, .m (tab1 p 9).1, .m (tab1 p 9).2.1, .m (tab1 p 9).2.2, .m (tab1 p 10).1, .m (tab1 p 10).2.1, .m (tab1 p 10).2.2, .m (tab1 p 11).1, .m (tab1 p 11).2.1, .m (tab1 p 11).2.2, .m (tab1 p 12).1, .m (tab1 p 12).2.1, .m (tab1 p 12).2.2, .m (tab1 p 13).1, .m (tab1 p 13).2.1, .m (tab1 p 13).2.2, .m (tab1 p 14).1, .m (tab1 p 14).2.1, .m (tab1 p 14).2.2, .m (tab1 p 15).1, .m (tab1 p 15).2.1, .m (tab1 p 15).2.2]
theorem pc1_size (p : Pt1) : (flat (pc1 p)).length = 18 := by rw [flat_length]; rfl
theorem tabC1_flat (p : Pt1) : flat (tabC1 p) = (List.range 16).flatMap (fun j => flat (pc1 (tab1 p j))) := by
  have e0 : flat (pc1 (tab1 p 0)) = flat [.m p.1, .m p.2.1, .c (.int .u64 0), .c (.int .u64 0), .c (.int .u64 0), .c (.int .u64 0), .c (.int .u64 0), .c (.int .u64 0)] := by
    show flat ([.m p.1, .m p.2.1] ++ [.m (0 : Fin Pp)]) = flat ([.m p.1, .m p.2.1] ++ [.c (.int .u64 0), .c (.int .u64 0), .c (.int .u64 0), .c (.int .u64 0), .c (.int .u64 0), .c (.int .u64 0)])
    rw [flat_append, flat_append, zero_m]
  have e1 : tabC1 p = [.m p.1, .m p.2.1, .c (.int .u64 0), .c (.int .u64 0), .c (.int .u64 0), .c (.int .u64 0), .c (.int .u64 0), .c (.int .u64 0)] ++ (pc1 (tab1 p 1) ++ (pc1 (tab1 p 2) ++ (pc1 (tab1 p 3) ++ (pc1 (tab1 p 4) ++ (pc1 (tab1 p 5) ++ (pc1 (tab1 p 6) ++ (pc1 (tab1 p 7) ++ (pc1 (tab1 p 8) ++ (pc1 (tab1 p 9) ++ (pc1 (tab1 p 10) ++ (pc1 (tab1 p 11) ++ (pc1 (tab1 p 12) ++ (pc1 (tab1 p 13) ++ (pc1 (tab1 p 14) ++ pc1 (tab1 p 15))))))))))))))) := rfl
  rw [e1]
  simp only [flat_append, ← e0]
  simp [List.range_succ_eq_map, List.flatMap]
theorem tabC1_at (p : Pt1) (j : Nat) (h : j < 16) : ((flat (tabC1 p)).drop (0 + j * 18)).take 18 = flat (pc1 (tab1 p j)) := by
  rw [Nat.zero_add, tabC1_flat]
  exact drop_flatMap (fun j => flat (pc1 (tab1 p j))) 18 (fun j => pc1_size _) 16 j h
def maI1 (r : Array Tmp × Code × Code) (p : Pt1) (k : Nat) (b : Bool) (z : Int) (o : List Ch) : LState := { n := 32, sl := [(0, .yd 235), (1, .p 230 0), (3, .v (.bool b)), (4, .v (.int .i64 z))], hp := [(0, .own (pc1 p) 45), (1, .own [.n 4 k] 24), (2, .own [.c (.int .u64 0), .c (.int .u64 0), .c (.int .u64 0), .c (.int .u64 0), .c (.int .u64 0), .c (.int .u64 0), .c (.int .u64 0), .c (.int .u64 0), .c (.int .u64 0), .c (.int .u64 0), .c (.int .u64 0), .c (.int .u64 0), .c (.int .u64 0), .c (.int .u64 0), .c (.int .u64 0), .c (.int .u64 0), .c (.int .u64 0), .c (.int .u64 0)] 45), (3, .own (tabC1 p) 77), (226, .own o 45), (230, .own [.n 4 k] 24), (234, .dfd),
  (235, .lp .ready none ⟨43, .any, trOf [(5, .p 3 0), (7, .p 226 0)]⟩ r.1 r.2.1 r.2.2 234)] }
def maZ1 (r : Array Tmp × Code × Code) (p : Pt1) (k : Nat) (o : List Ch) : LState := { n := 32, sl := [], hp := [(0, .own (pc1 p) 45), (1, .own [.n 4 k] 24), (2, .own [.c (.int .u64 0), .c (.int .u64 0), .c (.int .u64 0), .c (.int .u64 0), .c (.int .u64 0), .c (.int .u64 0), .c (.int .u64 0), .c (.int .u64 0), .c (.int .u64 0), .c (.int .u64 0), .c (.int .u64 0), .c (.int .u64 0), .c (.int .u64 0), .c (.int .u64 0), .c (.int .u64 0), .c (.int .u64 0), .c (.int .u64 0), .c (.int .u64 0)] 45), (3, .own (tabC1 p) 77), (226, .own o 45), (230, .own [.n 4 k] 24), (234, .dfd),
  (235, .lp .ready none ⟨43, .any, trOf [(5, .p 3 0), (7, .p 226 0)]⟩ r.1 r.2.1 r.2.2 234)] }
theorem ma1_a (p q : Pt1) (k i : Nat) (hi : i < 64)  : Sound Try.prog 236 false (loopB Try.f61 0) (maI1 (rangeB Try.f17 0) p k true ((((i + 1 : Nat) : Int)) - 1) (pc1 q)).aa .normal (maI1 (rangeB Try.f17 0) p k true (((i : Nat) : Int) - 1) (pc1 (sum1 (twc1 (twc1 (twc1 (twc1 q)))) (tab1 p (dig k i))))).aa := by
  have hs := roundK_sound (P := Try.prog) (X := rulesX _) (env := [eTwice1, ePlusC1]) ⟨eTwice1_ok, ePlusC1_ok, trivial⟩ (n := 2) (os := oL [(239, wO 1), (242, rO 2 (i / 16)), (243, rO 3 0), (247, rO 4 (4 * (i % 16))), (249, { ch := 1, hi := fun _ => dig k i }), (291, rO 2 (dig k i)), (292, { ch := 0, hi := fun _ => 0, ru := 8, cs := fun _ => pc1 (tab1 p (dig k i)) })]) (fb := 236) (rd := false) (c := loopB Try.f61 0) (k := 238) (I := maI1 (rangeB Try.f17 0) p k true ((((i + 1 : Nat) : Int)) - 1) (pc1 q)) (sk := [0, 1, 3, 4]) (hk := [0, 1, 2, 3, 226, 230, 234, 235]) (lk := [(235, [5, 7])]) (ex := .normal)
    (L := maI1 (rangeB Try.f17 0) p k true (IntKind.i64.wrap ((((i + 1 : Nat) : Int) - 1) - 1)) (pc1 (sum1 (twc1 (twc1 (twc1 (twc1 q)))) (tab1 p (dig k i))))) (by kernel_rfl) (And.intro (show sizes (pc1 (tab1 p (dig k i))) = 18 ∧ ((flat (tabC1 p)).drop (0 + dig k i * 18)).take 18 = flat (pc1 (tab1 p (dig k i))) from ⟨rfl, tabC1_at p _ (dig_lt k i)⟩) (And.intro (show ((dig k i : Nat) : Int) = ((dig k i : Nat) : Int) ∧ dig k i < 16 from ⟨rfl, dig_lt k i⟩) (And.intro (dq_dig k i) (And.intro (dq_mod i) (And.intro (show 0 + i / 16 * 1 < 4 from by omega) (And.intro (dq_div i hi) (And.intro (show decide (((((i + 1 : Nat) : Int)) - 1) ≥ 0) = true from decide_eq_true (by omega)) trivial)))))))
  rw [show IntKind.i64.wrap ((((i + 1 : Nat) : Int) - 1) - 1) = ((i : Nat) : Int) - 1 by rw [wrap_i64]; omega] at hs
  exact hs
theorem ma1_b (p q : Pt1) (k i : Nat) (hi : i < 64) (hd : ((dig k i : Nat) : Int) > 0) : Sound Try.prog 236 false (loopB Try.f61 0) (maI1 (rangeB Try.f17 0) p k false ((((i + 1 : Nat) : Int)) - 1) (pc1 q)).aa .normal (maI1 (rangeB Try.f17 0) p k true (((i : Nat) : Int) - 1) (pc1 (sum1 (twc1 (twc1 (twc1 (twc1 q)))) (tab1 p (dig k i))))).aa := by
  have hs := roundK_sound (P := Try.prog) (X := rulesX _) (env := [eTwice1, ePlusC1]) ⟨eTwice1_ok, ePlusC1_ok, trivial⟩ (n := 2) (os := oL [(239, wO 1), (242, rO 2 (i / 16)), (243, rO 3 0), (247, rO 4 (4 * (i % 16))), (249, { ch := 1, hi := fun _ => dig k i }), (254, wO 1), (291, rO 2 (dig k i)), (292, { ch := 0, hi := fun _ => 0, ru := 8, cs := fun _ => pc1 (tab1 p (dig k i)) })]) (fb := 236) (rd := false) (c := loopB Try.f61 0) (k := 238) (I := maI1 (rangeB Try.f17 0) p k false ((((i + 1 : Nat) : Int)) - 1) (pc1 q)) (sk := [0, 1, 3, 4]) (hk := [0, 1, 2, 3, 226, 230, 234, 235]) (lk := [(235, [5, 7])]) (ex := .normal)
    (L := maI1 (rangeB Try.f17 0) p k true (IntKind.i64.wrap ((((i + 1 : Nat) : Int) - 1) - 1)) (pc1 (sum1 (twc1 (twc1 (twc1 (twc1 q)))) (tab1 p (dig k i))))) (by kernel_rfl) (And.intro (show sizes (pc1 (tab1 p (dig k i))) = 18 ∧ ((flat (tabC1 p)).drop (0 + dig k i * 18)).take 18 = flat (pc1 (tab1 p (dig k i))) from ⟨rfl, tabC1_at p _ (dig_lt k i)⟩) (And.intro (show ((dig k i : Nat) : Int) = ((dig k i : Nat) : Int) ∧ dig k i < 16 from ⟨rfl, dig_lt k i⟩) (And.intro (show decide (((dig k i : Nat) : Int) > 0) = true from decide_eq_true hd) (And.intro (dq_dig k i) (And.intro (dq_mod i) (And.intro (show 0 + i / 16 * 1 < 4 from by omega) (And.intro (dq_div i hi) (And.intro (show decide (((((i + 1 : Nat) : Int)) - 1) ≥ 0) = true from decide_eq_true (by omega)) trivial))))))))
  rw [show IntKind.i64.wrap ((((i + 1 : Nat) : Int) - 1) - 1) = ((i : Nat) : Int) - 1 by rw [wrap_i64]; omega] at hs
  exact hs
theorem ma1_c (p q : Pt1) (k i : Nat) (hi : i < 64) (hd : ¬ ((dig k i : Nat) : Int) > 0) : Sound Try.prog 236 false (loopB Try.f61 0) (maI1 (rangeB Try.f17 0) p k false ((((i + 1 : Nat) : Int)) - 1) (pc1 q)).aa .normal (maI1 (rangeB Try.f17 0) p k false (((i : Nat) : Int) - 1) (pc1 q)).aa := by
  have hs := roundK_sound (P := Try.prog) (X := rulesX _) (env := [eTwice1, ePlusC1]) ⟨eTwice1_ok, ePlusC1_ok, trivial⟩ (n := 2) (os := oL [(239, wO 1), (242, rO 2 (i / 16)), (243, rO 3 0), (247, rO 4 (4 * (i % 16))), (249, { ch := 1, hi := fun _ => dig k i }), (254, wO 2)]) (fb := 236) (rd := false) (c := loopB Try.f61 0) (k := 238) (I := maI1 (rangeB Try.f17 0) p k false ((((i + 1 : Nat) : Int)) - 1) (pc1 q)) (sk := [0, 1, 3, 4]) (hk := [0, 1, 2, 3, 226, 230, 234, 235]) (lk := [(235, [5, 7])]) (ex := .normal)
    (L := maI1 (rangeB Try.f17 0) p k false (IntKind.i64.wrap ((((i + 1 : Nat) : Int) - 1) - 1)) (pc1 q)) (by kernel_rfl) (And.intro (show decide (((dig k i : Nat) : Int) > 0) = false from decide_eq_false hd) (And.intro (dq_dig k i) (And.intro (dq_mod i) (And.intro (show 0 + i / 16 * 1 < 4 from by omega) (And.intro (dq_div i hi) (And.intro (show decide (((((i + 1 : Nat) : Int)) - 1) ≥ 0) = true from decide_eq_true (by omega)) trivial))))))
  rw [show IntKind.i64.wrap ((((i + 1 : Nat) : Int) - 1) - 1) = ((i : Nat) : Int) - 1 by rw [wrap_i64]; omega] at hs
  exact hs
theorem ma1_end (p q : Pt1) (k : Nat) (b : Bool) : Sound Try.prog 236 false (loopB Try.f61 0) (maI1 (rangeB Try.f17 0) p k b (((0 : Nat) : Int) - 1) (pc1 q)).aa (.exit 0) (maZ1 (rangeB Try.f17 0) p k (pc1 q)).aa :=
  roundK_sound (P := Try.prog) (X := rulesX _) (env := []) trivial (n := 2) (os := oL [(239, wO 2)]) (fb := 236) (rd := false) (c := loopB Try.f61 0) (k := 238) (I := maI1 (rangeB Try.f17 0) p k b (((0 : Nat) : Int) - 1) (pc1 q)) (sk := []) (hk := [0, 1, 2, 3, 226, 230, 234, 235]) (lk := [(235, [5, 7])]) (ex := .exit 0)
    (L := maZ1 (rangeB Try.f17 0) p k (pc1 q)) (by kernel_rfl) (And.intro (show decide ((((0 : Nat) : Int) - 1) ≥ 0) = false from by decide) trivial)
theorem ma1_loop (p : Pt1) (k : Nat) (hk : k < 115792089237316195423570985008687907853269984665640564039457584007913129639936) (y : { i : Nat // i ≤ 64 }) : Sound Try.prog 236 false (.loop (loopB Try.f61 0)) (maI1 (rangeB Try.f17 0) p k (bgn k (64 - y.val)) (((y.val : Nat) : Int) - 1) (pc1 (man1 p k (64 - y.val)))).aa (.exit 0) (maZ1 (rangeB Try.f17 0) p k (pc1 (man1 p k 64))).aa := by
  refine loop_ok (m := fun y : { i : Nat // i ≤ 64 } => y.val) (fun y => maI1 (rangeB Try.f17 0) p k (bgn k (64 - y.val)) (((y.val : Nat) : Int) - 1) (pc1 (man1 p k (64 - y.val)))) (by simp) (fun y => ?_) y
  obtain ⟨i, hi⟩ := y
  cases i with
  | zero => exact .inr (ma1_end p _ k _)
  | succ i =>
    refine .inl ⟨⟨i, by omega⟩, Nat.lt_succ_self i, ?_⟩
    have e1 : 64 - i = (64 - (i + 1)) + 1 := by omega
    have e2 : 63 - (64 - (i + 1)) = i := by omega
    have hb := bgn_step k (64 - (i + 1)) (by omega)
    rw [e2, ← e1] at hb
    have hm : man1 p k (64 - i) = sum1 (twc1 (twc1 (twc1 (twc1 (man1 p k (64 - (i + 1))))))) (tab1 p (dig k i)) := by
      rw [e1]
      show sum1 _ (tab1 p (dig k (63 - (64 - (i + 1))))) = _
      rw [e2]
    simp only
    rw [hm]
    cases hc : bgn k (64 - (i + 1)) with
    | true =>
      rw [hc] at hb
      simp only [Bool.true_or] at hb
      rw [hb]
      exact ma1_a p _ k i (by omega)
    | false =>
      rw [hc] at hb
      simp only [Bool.false_or] at hb
      by_cases hd : ((dig k i : Nat) : Int) > 0
      · rw [hb, decide_eq_true (by omega)]
        exact ma1_b p _ k i (by omega) hd
      · have h0 : dig k i = 0 := by omega
        rw [hb, decide_eq_false (by omega)]
        have hn := man1_none p k (64 - (i + 1)) (bgn_not hk _ (by omega) hc)
        rw [hn, h0, twc1_inf _ rfl, twc1_inf _ rfl, twc1_inf _ rfl, twc1_inf _ rfl, sum1_inf _ _ rfl]
        exact ma1_c p _ k i (by omega) hd
theorem ma1_all (p : Pt1) (k : Nat) (hk : k < 115792089237316195423570985008687907853269984665640564039457584007913129639936) : Sound Try.prog 236 false (.loop (loopB Try.f61 0)) (maI1 (rangeB Try.f17 0) p k false 63 [.m p.1, .m p.2.1, .c (.int .u64 0), .c (.int .u64 0), .c (.int .u64 0), .c (.int .u64 0), .c (.int .u64 0), .c (.int .u64 0)]).aa (.exit 0) (maZ1 (rangeB Try.f17 0) p k (pc1 (man1 p k 64))).aa := by
  have hl := ma1_loop p k hk ⟨64, Nat.le_refl _⟩
  simp only [Nat.sub_self, bgn_zero hk] at hl
  refine Sound.pre (J := maI1 (rangeB Try.f17 0) p k false (((64 : Nat) : Int) - 1) (pc1 (man1 p k 0))) hl [] (by kernel_rfl) ?_
  have e0 : flat [.m p.1, .m p.2.1, .c (.int .u64 0), .c (.int .u64 0), .c (.int .u64 0), .c (.int .u64 0), .c (.int .u64 0), .c (.int .u64 0)] = flat (pc1 (man1 p k 0)) := by
    symm
    show flat ([.m p.1, .m p.2.1] ++ [.m (0 : Fin Pp)]) = flat ([.m p.1, .m p.2.1] ++ [.c (.int .u64 0), .c (.int .u64 0), .c (.int .u64 0), .c (.int .u64 0), .c (.int .u64 0), .c (.int .u64 0)])
    rw [flat_append, flat_append, zero_m]
  exact ⟨⟨rfl, ⟨rfl, rfl⟩, rfl, rfl, trivial⟩, ⟨⟨rfl, rfl⟩, ⟨rfl, rfl⟩, ⟨rfl, rfl⟩, ⟨rfl, rfl⟩, ⟨rfl, e0⟩, ⟨rfl, rfl⟩, trivial, ⟨⟨rfl, rfl, rfl, rfl, rfl, rfl, rfl⟩, rowFit_self (by kernel_rfl)⟩, trivial⟩⟩
theorem many1 (p : Pt1) (k : Nat) (hk : k < 115792089237316195423570985008687907853269984665640564039457584007913129639936) : Gives Try.prog 17 [.t (.ag (pc1 p)), .t (.ag [.n 4 k])] (.ag (pc1 (man1 p k 64))) :=
  fn_gives_at (P := Try.prog) (X := rulesX _) (env := [eTwice1, ePlusC1]) ⟨eTwice1_ok, ePlusC1_ok, trivial⟩ Try.func17 2 (oL [(238, lpO { I := maI1 (rangeB Try.f17 0) p k false 63 [.m p.1, .m p.2.1, .c (.int .u64 0), .c (.int .u64 0), .c (.int .u64 0), .c (.int .u64 0), .c (.int .u64 0), .c (.int .u64 0)], ex := .exit 0, E := maZ1 (rangeB Try.f17 0) p k (pc1 (man1 p k 64)), fr := 239, lk := [(235, [5, 7])] })]) (by kernel_rfl) ⟨_, rfl⟩
    (And.intro (show some (maI1 (rangeB Try.f17 0) p k false 63 [.m p.1, .m p.2.1, .c (.int .u64 0), .c (.int .u64 0), .c (.int .u64 0), .c (.int .u64 0), .c (.int .u64 0), .c (.int .u64 0)]) = some (maI1 (rangeB Try.f17 0) p k false 63 [.m p.1, .m p.2.1, .c (.int .u64 0), .c (.int .u64 0), .c (.int .u64 0), .c (.int .u64 0), .c (.int .u64 0), .c (.int .u64 0)]) from rfl) (And.intro (ma1_all p k hk) trivial))
def eMany1 : Entry := entry2 17 parPt1.x parN4.x (fun p k => [(some (k < 115792089237316195423570985008687907853269984665640564039457584007913129639936), .ag (pc1 (man1 p k 64)))])
theorem eMany1_ok : eMany1.OK Try.prog := entry2_ok (fun args w => Go.Proofs.enters_of (P := Try.prog) Try.func17 (by kernel_rfl) rfl args w) (fun p k => onlyIf (fun h => many1 p k h))
end Go.Proofs.Ytobgpmclgacbmaa

/- Contracts: what point of curve 1 may be, what is of its group. -/
set_option linter.unusedSimpArgs false
set_option linter.unusedVariables false
namespace Go.Proofs.Ytobgpmclgacbmaa
open Go.Ev Go.RowKit

theorem on1_no1 (x y : Nat) (hx : small x) (hy : small y) (h : ¬ flat [.q (ofP x)] = flat [.n 6 x]) : Gives Try.prog 37 [.t (.ag [.n 6 x, .n 6 y, .c (.bool false)])] (.v (.bool false)) :=
  fn_gives (P := Try.prog) (env := [eInP, eOutP, eTimesP, ePlusP, eSmP]) ⟨eInP_ok, eOutP_ok, eTimesP_ok, ePlusP_ok, eSmP_ok, trivial⟩ Try.func37 1 (oL [(18, wO 1)]) (by kernel_rfl)
      (And.intro (show ¬ flat [.q (ofP x)] = flat [.n 6 x] from h)
      (And.intro (show smP y from hy)
      (And.intro (show smP x from hx) trivial)))
theorem on1_no2 (x y : Nat) (hx : small x) (hy : small y) (h : flat [.q (ofP x)] = flat [.n 6 x]) (h2 : ¬ flat [.q (ofP y)] = flat [.n 6 y]) : Gives Try.prog 37 [.t (.ag [.n 6 x, .n 6 y, .c (.bool false)])] (.v (.bool false)) :=
  fn_gives (P := Try.prog) (env := [eInP, eOutP, eTimesP, ePlusP, eSmP]) ⟨eInP_ok, eOutP_ok, eTimesP_ok, ePlusP_ok, eSmP_ok, trivial⟩ Try.func37 1 (oL [(18, wO 0), (24, wO 1)]) (by kernel_rfl)
      (And.intro (show ¬ flat [.q (ofP y)] = flat [.n 6 y] from h2)
      (And.intro (show flat [.q (ofP x)] = flat [.n 6 x] from h)
      (And.intro (show smP y from hy)
      (And.intro (show smP x from hx) trivial))))
theorem on1_no3 (x y : Nat) (hx : small x) (hy : small y) (h : flat [.q (ofP x)] = flat [.n 6 x]) (h2 : flat [.q (ofP y)] = flat [.n 6 y]) (h3 : ¬ flat [.m (ofP y * ofP y)] = flat [.m (ofP x * ofP x * ofP x + ofP (4 % 18446744073709551616))]) : Gives Try.prog 37 [.t (.ag [.n 6 x, .n 6 y, .c (.bool false)])] (.v (.bool false)) :=
  fn_gives (P := Try.prog) (env := [eInP, eOutP, eTimesP, ePlusP, eSmP]) ⟨eInP_ok, eOutP_ok, eTimesP_ok, ePlusP_ok, eSmP_ok, trivial⟩ Try.func37 1 (oL [(18, wO 0), (24, wO 0), (37, wO 1)]) (by kernel_rfl)
      (And.intro (show ¬ flat [.m (ofP y * ofP y)] = flat [.m (ofP x * ofP x * ofP x + ofP (4 % 18446744073709551616))] from h3)
      (And.intro (show flat [.q (ofP y)] = flat [.n 6 y] from h2)
      (And.intro (show flat [.q (ofP x)] = flat [.n 6 x] from h)
      (And.intro (show smP y from hy)
      (And.intro (show smP x from hx) trivial)))))
theorem on1_ok (x y : Nat) (hx : small x) (hy : small y) (h : flat [.q (ofP x)] = flat [.n 6 x]) (h2 : flat [.q (ofP y)] = flat [.n 6 y]) (h3 : flat [.m (ofP y * ofP y)] = flat [.m (ofP x * ofP x * ofP x + ofP (4 % 18446744073709551616))]) : Gives Try.prog 37 [.t (.ag [.n 6 x, .n 6 y, .c (.bool false)])] (.v (.bool true)) :=
  fn_gives (P := Try.prog) (env := [eInP, eOutP, eTimesP, ePlusP, eSmP]) ⟨eInP_ok, eOutP_ok, eTimesP_ok, ePlusP_ok, eSmP_ok, trivial⟩ Try.func37 1 (oL [(18, wO 0), (24, wO 0), (37, wO 0)]) (by kernel_rfl)
      (And.intro (show flat [.m (ofP y * ofP y)] = flat [.m (ofP x * ofP x * ofP x + ofP (4 % 18446744073709551616))] from h3)
      (And.intro (show flat [.q (ofP y)] = flat [.n 6 y] from h2)
      (And.intro (show flat [.q (ofP x)] = flat [.n 6 x] from h)
      (And.intro (show smP y from hy)
      (And.intro (show smP x from hx) trivial)))))
theorem on1_inf (x y : Nat) (h : flat [.n 6 x, .n 6 y, .c (.bool true)] = flat [.c (.int .u64 0), .c (.int .u64 0), .c (.int .u64 0), .c (.int .u64 0), .c (.int .u64 0), .c (.int .u64 0), .c (.int .u64 0), .c (.int .u64 0), .c (.int .u64 0), .c (.int .u64 0), .c (.int .u64 0), .c (.int .u64 0), .c (.bool true)]) : Gives Try.prog 37 [.t (.ag [.n 6 x, .n 6 y, .c (.bool true)])] (.v (.bool true)) :=
  fn_gives (P := Try.prog) (env := [eInP, eOutP, eTimesP, ePlusP, eSmP]) ⟨eInP_ok, eOutP_ok, eTimesP_ok, ePlusP_ok, eSmP_ok, trivial⟩ Try.func37 1 (oL [(6, wO 0)]) (by kernel_rfl)
      (And.intro (show flat [.n 6 x, .n 6 y, .c (.bool true)] = flat [.c (.int .u64 0), .c (.int .u64 0), .c (.int .u64 0), .c (.int .u64 0), .c (.int .u64 0), .c (.int .u64 0), .c (.int .u64 0), .c (.int .u64 0), .c (.int .u64 0), .c (.int .u64 0), .c (.int .u64 0), .c (.int .u64 0), .c (.bool true)] from h) trivial)
theorem on1_noi (x y : Nat) (h : ¬ flat [.n 6 x, .n 6 y, .c (.bool true)] = flat [.c (.int .u64 0), .c (.int .u64 0), .c (.int .u64 0), .c (.int .u64 0), .c (.int .u64 0), .c (.int .u64 0), .c (.int .u64 0), .c (.int .u64 0), .c (.int .u64 0), .c (.int .u64 0), .c (.int .u64 0), .c (.int .u64 0), .c (.bool true)]) : Gives Try.prog 37 [.t (.ag [.n 6 x, .n 6 y, .c (.bool true)])] (.v (.bool false)) :=
  fn_gives (P := Try.prog) (env := [eInP, eOutP, eTimesP, ePlusP, eSmP]) ⟨eInP_ok, eOutP_ok, eTimesP_ok, ePlusP_ok, eSmP_ok, trivial⟩ Try.func37 1 (oL [(6, wO 1)]) (by kernel_rfl)
      (And.intro (show ¬ flat [.n 6 x, .n 6 y, .c (.bool true)] = flat [.c (.int .u64 0), .c (.int .u64 0), .c (.int .u64 0), .c (.int .u64 0), .c (.int .u64 0), .c (.int .u64 0), .c (.int .u64 0), .c (.int .u64 0), .c (.int .u64 0), .c (.int .u64 0), .c (.int .u64 0), .c (.int .u64 0), .c (.bool true)] from h) trivial)
theorem curve1_iff (x y : Nat) : flat [.m (ofP y * ofP y)] = flat [.m (ofP x * ofP x * ofP x + ofP (4 % 18446744073709551616))] ↔ ofP y * ofP y = rhs1 (ofP x) := by
  rw [show (4 % 18446744073709551616 : Nat) = 4 from rfl]
  unfold rhs1
  exact ⟨fun e => flat_m_inj e, fun e => by rw [e]⟩
theorem on1_yes (a : A1) (hs : sml1 a) (h : may1 a) : Gives Try.prog 37 [.t (.ag [.n 6 a.1, .n 6 a.2.1, .c (.bool a.2.2)])] (.v (.bool true)) := by
  obtain ⟨x, y, b⟩ := a
  obtain ⟨hx, hy⟩ := hs
  cases b with
  | true => exact on1_inf x y ((flat_inf1 hx hy true).2 (by simpa only [may1, if_true] using h))
  | false =>
    have h : is1 x ∧ is1 y ∧ ofP y * ofP y = rhs1 (ofP x) := h
    exact on1_ok x y hx hy ((flat_is1 hx).2 h.1) ((flat_is1 hy).2 h.2.1) ((curve1_iff x y).2 h.2.2)
theorem on1_not (a : A1) (hs : sml1 a) (h : ¬ may1 a) : Gives Try.prog 37 [.t (.ag [.n 6 a.1, .n 6 a.2.1, .c (.bool a.2.2)])] (.v (.bool false)) := by
  obtain ⟨x, y, b⟩ := a
  obtain ⟨hx, hy⟩ := hs
  cases b with
  | true => exact on1_noi x y (fun e => h (by simpa only [may1, if_true] using (flat_inf1 hx hy true).1 e))
  | false =>
    have h : ¬ (is1 x ∧ is1 y ∧ ofP y * ofP y = rhs1 (ofP x)) := h
    by_cases h1 : is1 x
    · by_cases h2 : is1 y
      · exact on1_no3 x y hx hy ((flat_is1 hx).2 h1) ((flat_is1 hy).2 h2) (fun e => h ⟨h1, h2, (curve1_iff x y).1 e⟩)
      · exact on1_no2 x y hx hy ((flat_is1 hx).2 h1) (fun e => h2 ((flat_is1 hy).1 e))
    · exact on1_no1 x y hx hy (fun e => h1 ((flat_is1 hx).1 e))
def altR1 (a : A1) : Alts := [(some (sml1 a ∧ may1 a), .v (.bool true)), (some (sml1 a ∧ ¬ may1 a), .v (.bool false))]
theorem altR1_ok {f : FuncId} {args : A1 → List XV} (h1 : ∀ a, sml1 a → may1 a → Gives Try.prog f (args a) (.v (.bool true))) (h2 : ∀ a, sml1 a → ¬ may1 a → Gives Try.prog f (args a) (.v (.bool false))) : ∀ a c r, (c, r) ∈ altR1 a → c.getD True → Gives Try.prog f (args a) r := by
  intro a c r hm hc
  simp only [altR1, List.mem_cons, Prod.mk.injEq, List.not_mem_nil, or_false] at hm
  rcases hm with ⟨rfl, rfl⟩ | ⟨rfl, rfl⟩
  · exact h1 a hc.1 hc.2
  · exact h2 a hc.1 hc.2
def eOn1 : Entry := entry1 37 parA1.x altR1
theorem eOn1_ok : eOn1.OK Try.prog := entry1_ok (fun args w => Go.Proofs.enters_of (P := Try.prog) Try.func37 (by kernel_rfl) rfl args w) (altR1_ok on1_yes on1_not)
theorem may1_yes (a : A1) (hs : sml1 a) (h : may1 a) : Gives Try.prog 14 [.t (.ag [.n 6 a.1, .n 6 a.2.1, .c (.bool a.2.2)])] (.v (.bool true)) :=
  fn_gives (P := Try.prog) (env := [eOn1]) ⟨eOn1_ok, trivial⟩ Try.func14 0 (oL [(3, wO 0)]) (by kernel_rfl) (And.intro (show sml1 a ∧ may1 a from ⟨hs, h⟩) trivial)
theorem may1_not (a : A1) (hs : sml1 a) (h : ¬ may1 a) : Gives Try.prog 14 [.t (.ag [.n 6 a.1, .n 6 a.2.1, .c (.bool a.2.2)])] (.v (.bool false)) :=
  fn_gives (P := Try.prog) (env := [eOn1]) ⟨eOn1_ok, trivial⟩ Try.func14 0 (oL [(3, wO 1)]) (by kernel_rfl) (And.intro (show sml1 a ∧ ¬ may1 a from ⟨hs, h⟩) trivial)
def eRig1 : Entry := entry1 14 parA1.x altR1
theorem eRig1_ok : eRig1.OK Try.prog := entry1_ok (fun args w => Go.Proofs.enters_of (P := Try.prog) Try.func14 (by kernel_rfl) rfl args w) (altR1_ok may1_yes may1_not)
theorem in1_inf (x y : Nat) : Gives Try.prog 16 [.t (.ag [.n 6 x, .n 6 y, .c (.bool true)])] (.ag [.m (ofP (1 % 18446744073709551616)), .m (ofP (1 % 18446744073709551616)), .c (.int .u64 0), .c (.int .u64 0), .c (.int .u64 0), .c (.int .u64 0), .c (.int .u64 0), .c (.int .u64 0)]) :=
  fn_gives (P := Try.prog) (env := [eInP, eSmP]) ⟨eInP_ok, eSmP_ok, trivial⟩ Try.func16 0 (oL []) (by kernel_rfl) trivial
theorem in1_fin (x y : Nat) (hx : small x) (hy : small y) : Gives Try.prog 16 [.t (.ag [.n 6 x, .n 6 y, .c (.bool false)])] (.ag [.m (ofP x), .m (ofP y), .m (ofP (1 % 18446744073709551616))]) :=
  fn_gives (P := Try.prog) (env := [eInP, eSmP]) ⟨eInP_ok, eSmP_ok, trivial⟩ Try.func16 0 (oL []) (by kernel_rfl) (And.intro (show smP y from hy) (And.intro (show smP x from hx) trivial))
theorem in1_fin' (x y : Nat) : in1 (x, y, false) = (ofP x, ofP y, 1) := by unfold in1; exact if_neg (by simp)
theorem in1_inf' (x y : Nat) : in1 (x, y, true) = (1, 1, 0) := by unfold in1; exact if_pos rfl
theorem fin1_flat (x y : Fin Pp) : flat [.m x, .m y, .m (ofP (1 % 18446744073709551616))] = flat (pc1 (x, y, 1)) := rfl
theorem inf1_flat : flat [.m (ofP (1 % 18446744073709551616)), .m (ofP (1 % 18446744073709551616)), .c (.int .u64 0), .c (.int .u64 0), .c (.int .u64 0), .c (.int .u64 0), .c (.int .u64 0), .c (.int .u64 0)] = flat (pc1 (1, 1, 0)) := by kernel_rfl
theorem inG1 (a : A1) (hs : sml1 a) : Gives Try.prog 16 [.t (.ag [.n 6 a.1, .n 6 a.2.1, .c (.bool a.2.2)])] (.ag (pc1 (in1 a))) := by
  obtain ⟨x, y, b⟩ := a
  obtain ⟨hx, hy⟩ := hs
  cases b with
  | true => rw [in1_inf' x y]; exact Gives.same (in1_inf x y) (ag_same rfl rfl inf1_flat).symm
  | false => rw [in1_fin' x y]; exact Gives.same (in1_fin x y hx hy) (ag_same rfl rfl (fin1_flat _ _)).symm
def eInG1 : Entry := entry1 16 parA1.x (fun a => [(some (sml1 a), .ag (pc1 (in1 a)))])
theorem eInG1_ok : eInG1.OK Try.prog := entry1_ok (fun args w => Go.Proofs.enters_of (P := Try.prog) Try.func16 (by kernel_rfl) rfl args w) (fun a => onlyIf (fun h => inG1 a h))
def eRc1 : Entry := entry0 53 [(none, .ag [.c (.int .u64 18446744069414584321), .c (.int .u64 6034159408538082302), .c (.int .u64 3691218898639771653), .c (.int .u64 8353516859464449352)])]
theorem eRc1_ok : eRc1.OK Try.prog := entry0_ok (fun args w => Go.Proofs.enters_of (P := Try.prog) Try.func53 (by kernel_rfl) rfl args w)
  (only (fn_gives (P := Try.prog) (env := []) trivial Try.func53 0 o0 (by kernel_rfl) trivial))
theorem grp1_yes (a : A1) (hs : sml1 a) (h : may1 a) (g : grp1 a) : Gives Try.prog 28 [.t (.ag [.n 6 a.1, .n 6 a.2.1, .c (.bool a.2.2)])] (.v (.bool true)) :=
  fn_gives (P := Try.prog) (env := [eRig1, eInG1, eRc1, eMany1, eIsZ1]) ⟨eRig1_ok, eInG1_ok, eRc1_ok, eMany1_ok, eIsZ1_ok, trivial⟩ Try.func28 0 (oL [(3, wO 0), (10, wO 0)]) (by kernel_rfl)
      (And.intro (show (man1 (in1 a) Rr 64).2.2 = 0 from g)
      (And.intro (show Rr < 115792089237316195423570985008687907853269984665640564039457584007913129639936 from by decide)
      (And.intro (show sml1 a from hs)
      (And.intro (show sml1 a ∧ may1 a from ⟨hs, h⟩) trivial))))
theorem grp1_not (a : A1) (hs : sml1 a) (h : may1 a) (g : ¬ grp1 a) : Gives Try.prog 28 [.t (.ag [.n 6 a.1, .n 6 a.2.1, .c (.bool a.2.2)])] (.v (.bool false)) :=
  fn_gives (P := Try.prog) (env := [eRig1, eInG1, eRc1, eMany1, eIsZ1]) ⟨eRig1_ok, eInG1_ok, eRc1_ok, eMany1_ok, eIsZ1_ok, trivial⟩ Try.func28 0 (oL [(3, wO 0), (10, wO 1)]) (by kernel_rfl)
      (And.intro (show ¬ (man1 (in1 a) Rr 64).2.2 = 0 from g)
      (And.intro (show Rr < 115792089237316195423570985008687907853269984665640564039457584007913129639936 from by decide)
      (And.intro (show sml1 a from hs)
      (And.intro (show sml1 a ∧ may1 a from ⟨hs, h⟩) trivial))))
theorem grp1_no (a : A1) (hs : sml1 a) (h : ¬ may1 a) : Gives Try.prog 28 [.t (.ag [.n 6 a.1, .n 6 a.2.1, .c (.bool a.2.2)])] (.v (.bool false)) :=
  fn_gives (P := Try.prog) (env := [eRig1, eInG1, eRc1, eMany1, eIsZ1]) ⟨eRig1_ok, eInG1_ok, eRc1_ok, eMany1_ok, eIsZ1_ok, trivial⟩ Try.func28 0 (oL [(3, wO 1)]) (by kernel_rfl)
      (And.intro (show sml1 a ∧ ¬ may1 a from ⟨hs, h⟩) trivial)
def eGrp1 : Entry := entry1 28 parA1.x (fun a => [(some (sml1 a ∧ may1 a ∧ grp1 a), .v (.bool true)), (some (sml1 a ∧ may1 a ∧ ¬ grp1 a), .v (.bool false)), (some (sml1 a ∧ ¬ may1 a), .v (.bool false))])
theorem eGrp1_ok : eGrp1.OK Try.prog := entry1_ok (fun args w => Go.Proofs.enters_of (P := Try.prog) Try.func28 (by kernel_rfl) rfl args w) (fun a c r hm hc => by
  simp only [List.mem_cons, Prod.mk.injEq, List.not_mem_nil, or_false] at hm
  rcases hm with ⟨rfl, rfl⟩ | ⟨rfl, rfl⟩ | ⟨rfl, rfl⟩
  · exact grp1_yes a hc.1 hc.2.1 hc.2.2
  · exact grp1_not a hc.1 hc.2.1 hc.2.2
  · exact grp1_no a hc.1 hc.2)
end Go.Proofs.Ytobgpmclgacbmaa

/- Contracts: points of curve 1 as bytes; the reference. -/
set_option linter.unusedSimpArgs false
set_option linter.unusedVariables false
namespace Go.Proofs.Ytobgpmclgacbmaa
open Go.Ev Go.RowKit

theorem Put1_00 (x y : Nat) (hx : small x) (hy : small y) (hr : may1 (x, y, false)) (hg : grp1 (x, y, false)) (hh : ¬ hiP (ofP y)) : Gives Try.prog 9 [.t (.ag [.n 6 x, .n 6 y, .c (.bool false)])] (.tp [.v (.string (ofL (flgI (b1 (ofP x)) (flagI false false true)))), .v (.int .i64 0)]) :=
  fn_gives_at (P := Try.prog) (X := rulesX _) (env := [eRig1, eGrp1, eFPutP, eInP, eHighP, eFlag]) ⟨eRig1_ok, eGrp1_ok, eFPutP_ok, eInP_ok, eHighP_ok, eFlag_ok, trivial⟩ Try.func9 2 (oL [(9, wO 0), (13, wO 0), (27, wO 1)]) (by kernel_rfl) ⟨_, rfl⟩
      (And.intro (show 0 < 48 ∧ 48 ≤ 1000 from by decide)
      (And.intro (show ¬ hiP (ofP y) from hh)
      (And.intro (show smP y from hy)
      (And.intro (show smtP (.inr y) from hy)
      (And.intro (show smtP (.inr x) from hx)
      (And.intro (show sml1 (x, y, false) ∧ may1 (x, y, false) ∧ grp1 (x, y, false) from ⟨⟨hx, hy⟩, hr, hg⟩)
      (And.intro (show sml1 (x, y, false) ∧ may1 (x, y, false) from ⟨⟨hx, hy⟩, hr⟩) trivial)))))))
theorem Put1_01 (x y : Nat) (hx : small x) (hy : small y) (hr : may1 (x, y, false)) (hg : grp1 (x, y, false)) (hh : hiP (ofP y)) : Gives Try.prog 9 [.t (.ag [.n 6 x, .n 6 y, .c (.bool false)])] (.tp [.v (.string (ofL (flgI (b1 (ofP x)) (flagI false true true)))), .v (.int .i64 0)]) :=
  fn_gives_at (P := Try.prog) (X := rulesX _) (env := [eRig1, eGrp1, eFPutP, eInP, eHighP, eFlag]) ⟨eRig1_ok, eGrp1_ok, eFPutP_ok, eInP_ok, eHighP_ok, eFlag_ok, trivial⟩ Try.func9 2 (oL [(9, wO 0), (13, wO 0), (27, wO 0)]) (by kernel_rfl) ⟨_, rfl⟩
      (And.intro (show 0 < 48 ∧ 48 ≤ 1000 from by decide)
      (And.intro (show hiP (ofP y) from hh)
      (And.intro (show smP y from hy)
      (And.intro (show smtP (.inr y) from hy)
      (And.intro (show smtP (.inr x) from hx)
      (And.intro (show sml1 (x, y, false) ∧ may1 (x, y, false) ∧ grp1 (x, y, false) from ⟨⟨hx, hy⟩, hr, hg⟩)
      (And.intro (show sml1 (x, y, false) ∧ may1 (x, y, false) from ⟨⟨hx, hy⟩, hr⟩) trivial)))))))
theorem Put1_10 (x y : Nat) (hx : small x) (hy : small y) (hr : may1 (x, y, true)) (hg : grp1 (x, y, true)) (hh : ¬ hiP (ofP y)) : Gives Try.prog 9 [.t (.ag [.n 6 x, .n 6 y, .c (.bool true)])] (.tp [.v (.string (ofL (flgI (b1 (ofP x)) (flagI true false true)))), .v (.int .i64 0)]) :=
  fn_gives_at (P := Try.prog) (X := rulesX _) (env := [eRig1, eGrp1, eFPutP, eInP, eHighP, eFlag]) ⟨eRig1_ok, eGrp1_ok, eFPutP_ok, eInP_ok, eHighP_ok, eFlag_ok, trivial⟩ Try.func9 2 (oL [(9, wO 0), (13, wO 0), (27, wO 1)]) (by kernel_rfl) ⟨_, rfl⟩
      (And.intro (show 0 < 48 ∧ 48 ≤ 1000 from by decide)
      (And.intro (show ¬ hiP (ofP y) from hh)
      (And.intro (show smP y from hy)
      (And.intro (show smtP (.inr y) from hy)
      (And.intro (show smtP (.inr x) from hx)
      (And.intro (show sml1 (x, y, true) ∧ may1 (x, y, true) ∧ grp1 (x, y, true) from ⟨⟨hx, hy⟩, hr, hg⟩)
      (And.intro (show sml1 (x, y, true) ∧ may1 (x, y, true) from ⟨⟨hx, hy⟩, hr⟩) trivial)))))))
theorem Put1_11 (x y : Nat) (hx : small x) (hy : small y) (hr : may1 (x, y, true)) (hg : grp1 (x, y, true)) (hh : hiP (ofP y)) : Gives Try.prog 9 [.t (.ag [.n 6 x, .n 6 y, .c (.bool true)])] (.tp [.v (.string (ofL (flgI (b1 (ofP x)) (flagI true true true)))), .v (.int .i64 0)]) :=
  fn_gives_at (P := Try.prog) (X := rulesX _) (env := [eRig1, eGrp1, eFPutP, eInP, eHighP, eFlag]) ⟨eRig1_ok, eGrp1_ok, eFPutP_ok, eInP_ok, eHighP_ok, eFlag_ok, trivial⟩ Try.func9 2 (oL [(9, wO 0), (13, wO 0), (27, wO 0)]) (by kernel_rfl) ⟨_, rfl⟩
      (And.intro (show 0 < 48 ∧ 48 ≤ 1000 from by decide)
      (And.intro (show hiP (ofP y) from hh)
      (And.intro (show smP y from hy)
      (And.intro (show smtP (.inr y) from hy)
      (And.intro (show smtP (.inr x) from hx)
      (And.intro (show sml1 (x, y, true) ∧ may1 (x, y, true) ∧ grp1 (x, y, true) from ⟨⟨hx, hy⟩, hr, hg⟩)
      (And.intro (show sml1 (x, y, true) ∧ may1 (x, y, true) from ⟨⟨hx, hy⟩, hr⟩) trivial)))))))
theorem Put1_ok (a : A1) (hs : sml1 a) (h : may1 a) (g : grp1 a) : Gives Try.prog 9 [.t (.ag [.n 6 a.1, .n 6 a.2.1, .c (.bool a.2.2)])] (.tp [.v (.string (ofL (putL1 (ofP a.1) (ofP a.2.1) a.2.2 true))), .v (.int .i64 0)]) := by
  obtain ⟨x, y, b⟩ := a
  unfold putL1
  cases b <;> by_cases hh : hiP (ofP y)
  · rw [show decide (hiP (ofP (x, y, false).2.1)) = true from decide_eq_true hh]; exact Put1_01 x y hs.1 hs.2 h g hh
  · rw [show decide (hiP (ofP (x, y, false).2.1)) = false from decide_eq_false hh]; exact Put1_00 x y hs.1 hs.2 h g hh
  · rw [show decide (hiP (ofP (x, y, true).2.1)) = true from decide_eq_true hh]; exact Put1_11 x y hs.1 hs.2 h g hh
  · rw [show decide (hiP (ofP (x, y, true).2.1)) = false from decide_eq_false hh]; exact Put1_10 x y hs.1 hs.2 h g hh
theorem Wide1_00 (x y : Nat) (hx : small x) (hy : small y) (hr : may1 (x, y, false)) (hg : grp1 (x, y, false)) (hh : ¬ hiP (ofP y)) : Gives Try.prog 6 [.t (.ag [.n 6 x, .n 6 y, .c (.bool false)])] (.tp [.v (.string (ofL (flgI (b1 (ofP x) ++ b1 (ofP y)) (flagI false false false)))), .v (.int .i64 0)]) :=
  fn_gives_at (P := Try.prog) (X := rulesX _) (env := [eRig1, eGrp1, eFPutP, eInP, eHighP, eFlag]) ⟨eRig1_ok, eGrp1_ok, eFPutP_ok, eInP_ok, eHighP_ok, eFlag_ok, trivial⟩ Try.func6 2 (oL [(9, wO 0), (13, wO 0), (27, wO 1), (37, { ch := 0, hi := fun _ => 0, ru := 6 })]) (by kernel_rfl) ⟨_, rfl⟩
      (And.intro (show 0 < 96 ∧ 96 ≤ 1000 from by decide)
      (And.intro (show 48 + 48 ≤ 9223372036854775807 from by decide)
      (And.intro (show ¬ hiP (ofP y) from hh)
      (And.intro (show smP y from hy)
      (And.intro (show smtP (.inr y) from hy)
      (And.intro (show smtP (.inr x) from hx)
      (And.intro (show sml1 (x, y, false) ∧ may1 (x, y, false) ∧ grp1 (x, y, false) from ⟨⟨hx, hy⟩, hr, hg⟩)
      (And.intro (show sml1 (x, y, false) ∧ may1 (x, y, false) from ⟨⟨hx, hy⟩, hr⟩) trivial))))))))
theorem Wide1_01 (x y : Nat) (hx : small x) (hy : small y) (hr : may1 (x, y, false)) (hg : grp1 (x, y, false)) (hh : hiP (ofP y)) : Gives Try.prog 6 [.t (.ag [.n 6 x, .n 6 y, .c (.bool false)])] (.tp [.v (.string (ofL (flgI (b1 (ofP x) ++ b1 (ofP y)) (flagI false true false)))), .v (.int .i64 0)]) :=
  fn_gives_at (P := Try.prog) (X := rulesX _) (env := [eRig1, eGrp1, eFPutP, eInP, eHighP, eFlag]) ⟨eRig1_ok, eGrp1_ok, eFPutP_ok, eInP_ok, eHighP_ok, eFlag_ok, trivial⟩ Try.func6 2 (oL [(9, wO 0), (13, wO 0), (27, wO 0), (37, { ch := 0, hi := fun _ => 0, ru := 6 })]) (by kernel_rfl) ⟨_, rfl⟩
      (And.intro (show 0 < 96 ∧ 96 ≤ 1000 from by decide)
      (And.intro (show 48 + 48 ≤ 9223372036854775807 from by decide)
      (And.intro (show hiP (ofP y) from hh)
      (And.intro (show smP y from hy)
      (And.intro (show smtP (.inr y) from hy)
      (And.intro (show smtP (.inr x) from hx)
      (And.intro (show sml1 (x, y, false) ∧ may1 (x, y, false) ∧ grp1 (x, y, false) from ⟨⟨hx, hy⟩, hr, hg⟩)
      (And.intro (show sml1 (x, y, false) ∧ may1 (x, y, false) from ⟨⟨hx, hy⟩, hr⟩) trivial))))))))
theorem Wide1_10 (x y : Nat) (hx : small x) (hy : small y) (hr : may1 (x, y, true)) (hg : grp1 (x, y, true)) (hh : ¬ hiP (ofP y)) : Gives Try.prog 6 [.t (.ag [.n 6 x, .n 6 y, .c (.bool true)])] (.tp [.v (.string (ofL (flgI (b1 (ofP x) ++ b1 (ofP y)) (flagI true false false)))), .v (.int .i64 0)]) :=
  fn_gives_at (P := Try.prog) (X := rulesX _) (env := [eRig1, eGrp1, eFPutP, eInP, eHighP, eFlag]) ⟨eRig1_ok, eGrp1_ok, eFPutP_ok, eInP_ok, eHighP_ok, eFlag_ok, trivial⟩ Try.func6 2 (oL [(9, wO 0), (13, wO 0), (27, wO 1), (40, { ch := 0, hi := fun _ => 0, ru := 6 })]) (by kernel_rfl) ⟨_, rfl⟩
      (And.intro (show 0 < 96 ∧ 96 ≤ 1000 from by decide)
      (And.intro (show 48 + 48 ≤ 9223372036854775807 from by decide)
      (And.intro (show ¬ hiP (ofP y) from hh)
      (And.intro (show smP y from hy)
      (And.intro (show smtP (.inr y) from hy)
      (And.intro (show smtP (.inr x) from hx)
      (And.intro (show sml1 (x, y, true) ∧ may1 (x, y, true) ∧ grp1 (x, y, true) from ⟨⟨hx, hy⟩, hr, hg⟩)
      (And.intro (show sml1 (x, y, true) ∧ may1 (x, y, true) from ⟨⟨hx, hy⟩, hr⟩) trivial))))))))
theorem Wide1_11 (x y : Nat) (hx : small x) (hy : small y) (hr : may1 (x, y, true)) (hg : grp1 (x, y, true)) (hh : hiP (ofP y)) : Gives Try.prog 6 [.t (.ag [.n 6 x, .n 6 y, .c (.bool true)])] (.tp [.v (.string (ofL (flgI (b1 (ofP x) ++ b1 (ofP y)) (flagI true true false)))), .v (.int .i64 0)]) :=
  fn_gives_at (P := Try.prog) (X := rulesX _) (env := [eRig1, eGrp1, eFPutP, eInP, eHighP, eFlag]) ⟨eRig1_ok, eGrp1_ok, eFPutP_ok, eInP_ok, eHighP_ok, eFlag_ok, trivial⟩ Try.func6 2 (oL [(9, wO 0), (13, wO 0), (27, wO 0), (40, { ch := 0, hi := fun _ => 0, ru := 6 })]) (by kernel_rfl) ⟨_, rfl⟩
      (And.intro (show 0 < 96 ∧ 96 ≤ 1000 from by decide)
      (And.intro (show 48 + 48 ≤ 9223372036854775807 from by decide)
      (And.intro (show hiP (ofP y) from hh)
      (And.intro (show smP y from hy)
      (And.intro (show smtP (.inr y) from hy)
      (And.intro (show smtP (.inr x) from hx)
      (And.intro (show sml1 (x, y, true) ∧ may1 (x, y, true) ∧ grp1 (x, y, true) from ⟨⟨hx, hy⟩, hr, hg⟩)
      (And.intro (show sml1 (x, y, true) ∧ may1 (x, y, true) from ⟨⟨hx, hy⟩, hr⟩) trivial))))))))
theorem Wide1_ok (a : A1) (hs : sml1 a) (h : may1 a) (g : grp1 a) : Gives Try.prog 6 [.t (.ag [.n 6 a.1, .n 6 a.2.1, .c (.bool a.2.2)])] (.tp [.v (.string (ofL (putL1 (ofP a.1) (ofP a.2.1) a.2.2 false))), .v (.int .i64 0)]) := by
  obtain ⟨x, y, b⟩ := a
  unfold putL1
  cases b <;> by_cases hh : hiP (ofP y)
  · rw [show decide (hiP (ofP (x, y, false).2.1)) = true from decide_eq_true hh]; exact Wide1_01 x y hs.1 hs.2 h g hh
  · rw [show decide (hiP (ofP (x, y, false).2.1)) = false from decide_eq_false hh]; exact Wide1_00 x y hs.1 hs.2 h g hh
  · rw [show decide (hiP (ofP (x, y, true).2.1)) = true from decide_eq_true hh]; exact Wide1_11 x y hs.1 hs.2 h g hh
  · rw [show decide (hiP (ofP (x, y, true).2.1)) = false from decide_eq_false hh]; exact Wide1_10 x y hs.1 hs.2 h g hh
end Go.Proofs.Ytobgpmclgacbmaa

/- Contracts: the reference of curve 1. -/
set_option linter.unusedSimpArgs false
set_option linter.unusedVariables false
namespace Go.Proofs.Ytobgpmclgacbmaa
open Go.Ev Go.RowKit

end Go.Proofs.Ytobgpmclgacbmaa

/- Contracts: the reference of curve 2. -/
set_option linter.unusedSimpArgs false
set_option linter.unusedVariables false
namespace Go.Proofs.Ytobgpmclgacbmaa
open Go.Ev Go.RowKit

end Go.Proofs.Ytobgpmclgacbmaa

/- Contract: the point at infinity has bytes, and the generators are of the groups. -/
set_option linter.unusedSimpArgs false
set_option linter.unusedVariables false
namespace Go.Proofs.Ytobgpmclgacbmaa
open Go.Ev Go.RowKit
theorem Zero1_flat : flat [.c (.int .u64 0), .c (.int .u64 0), .c (.int .u64 0), .c (.int .u64 0), .c (.int .u64 0), .c (.int .u64 0), .c (.int .u64 0), .c (.int .u64 0), .c (.int .u64 0), .c (.int .u64 0), .c (.int .u64 0), .c (.int .u64 0), .c (.bool true)] = flat [.n 6 0, .n 6 0, .c (.bool true)] := by kernel_rfl
def eZero1 : Entry := entry0 11 [(none, .ag [.n 6 0, .n 6 0, .c (.bool true)])]
theorem eZero1_ok : eZero1.OK Try.prog := entry0_ok (fun args w => Go.Proofs.enters_of (P := Try.prog) Try.func11 (by kernel_rfl) rfl args w)
  (only (Gives.same (fn_gives (P := Try.prog) (env := []) trivial Try.func11 0 o0 (r := .ag [.c (.int .u64 0), .c (.int .u64 0), .c (.int .u64 0), .c (.int .u64 0), .c (.int .u64 0), .c (.int .u64 0), .c (.int .u64 0), .c (.int .u64 0), .c (.int .u64 0), .c (.int .u64 0), .c (.int .u64 0), .c (.int .u64 0), .c (.bool true)]) (by kernel_rfl) trivial) (ag_same rfl rfl Zero1_flat).symm))
theorem Gen1_flat : flat [.c (.int .u64 18103045581585958587), .c (.int .u64 7806400890582735599), .c (.int .u64 11623291730934869080), .c (.int .u64 14080658508445169925), .c (.int .u64 2780237799254240271), .c (.int .u64 1725392847304644500), .c (.int .u64 912580534683953121), .c (.int .u64 15005087156090211044), .c (.int .u64 61670280795567085), .c (.int .u64 18227722000993880822), .c (.int .u64 11573741888802228964), .c (.int .u64 627113611842199793), .c (.bool false)] = flat [.n 6 g1x, .n 6 g1y, .c (.bool false)] := by kernel_rfl
def eGen1 : Entry := entry0 5 [(none, .ag [.n 6 g1x, .n 6 g1y, .c (.bool false)])]
theorem eGen1_ok : eGen1.OK Try.prog := entry0_ok (fun args w => Go.Proofs.enters_of (P := Try.prog) Try.func5 (by kernel_rfl) rfl args w)
  (only (Gives.same (fn_gives (P := Try.prog) (env := []) trivial Try.func5 0 o0 (r := .ag [.c (.int .u64 18103045581585958587), .c (.int .u64 7806400890582735599), .c (.int .u64 11623291730934869080), .c (.int .u64 14080658508445169925), .c (.int .u64 2780237799254240271), .c (.int .u64 1725392847304644500), .c (.int .u64 912580534683953121), .c (.int .u64 15005087156090211044), .c (.int .u64 61670280795567085), .c (.int .u64 18227722000993880822), .c (.int .u64 11573741888802228964), .c (.int .u64 627113611842199793), .c (.bool false)]) (by kernel_rfl) trivial) (ag_same rfl rfl Gen1_flat).symm))
theorem Gen2_flat : flat [.c (.int .u64 15312334153293348280), .c (.int .u64 841050694974028783), .c (.int .u64 12993178926126977399), .c (.int .u64 14331714969349929730), .c (.int .u64 2740446039084699729), .c (.int .u64 165123225776229009), .c (.int .u64 16549740192668593022), .c (.int .u64 3696594454104530263), .c (.int .u64 13103893525273989193), .c (.int .u64 6443473286224459290), .c (.int .u64 9055845637167730533), .c (.int .u64 1432192374203850592), .c (.int .u64 16254428414758889473), .c (.int .u64 10536956157198377609), .c (.int .u64 7873024875724591404), .c (.int .u64 12537348094477325223), .c (.int .u64 10144865889576432922), .c (.int .u64 929383263523139089), .c (.int .u64 12297368366147926462), .c (.int .u64 4555124010822409633), .c (.int .u64 2771000935339432363), .c (.int .u64 14645187562128761775), .c (.int .u64 3651525051980876697), .c (.int .u64 434250606344352972), .c (.bool false)] = flat [.n 6 g2xa, .n 6 g2xb, .n 6 g2ya, .n 6 g2yb, .c (.bool false)] := by kernel_rfl
def eGen2 : Entry := entry0 34 [(none, .ag [.n 6 g2xa, .n 6 g2xb, .n 6 g2ya, .n 6 g2yb, .c (.bool false)])]
theorem eGen2_ok : eGen2.OK Try.prog := entry0_ok (fun args w => Go.Proofs.enters_of (P := Try.prog) Try.func34 (by kernel_rfl) rfl args w)
  (only (Gives.same (fn_gives (P := Try.prog) (env := []) trivial Try.func34 0 o0 (r := .ag [.c (.int .u64 15312334153293348280), .c (.int .u64 841050694974028783), .c (.int .u64 12993178926126977399), .c (.int .u64 14331714969349929730), .c (.int .u64 2740446039084699729), .c (.int .u64 165123225776229009), .c (.int .u64 16549740192668593022), .c (.int .u64 3696594454104530263), .c (.int .u64 13103893525273989193), .c (.int .u64 6443473286224459290), .c (.int .u64 9055845637167730533), .c (.int .u64 1432192374203850592), .c (.int .u64 16254428414758889473), .c (.int .u64 10536956157198377609), .c (.int .u64 7873024875724591404), .c (.int .u64 12537348094477325223), .c (.int .u64 10144865889576432922), .c (.int .u64 929383263523139089), .c (.int .u64 12297368366147926462), .c (.int .u64 4555124010822409633), .c (.int .u64 2771000935339432363), .c (.int .u64 14645187562128761775), .c (.int .u64 3651525051980876697), .c (.int .u64 434250606344352972), .c (.bool false)]) (by kernel_rfl) trivial) (ag_same rfl rfl Gen2_flat).symm))
theorem zero1_sml : sml1 (0, 0, true) := ⟨small_0, small_0⟩
theorem zero1_may : may1 (0, 0, true) := ⟨rfl, rfl⟩
theorem zero1_grp : grp1 (0, 0, true) := by unfold grp1; decide +kernel
theorem g1_sml : sml1 (g1x, g1y, false) := by unfold sml1 small; decide +kernel
theorem g1_may : may1 (g1x, g1y, false) := by
  show g1x < Pp ∧ g1y < Pp ∧ ofP g1y * ofP g1y = rhs1 (ofP g1x)
  decide +kernel
theorem g2_sml : sml2 ((g2xa, g2xb), (g2ya, g2yb), false) := by unfold sml2 small2 small; decide +kernel
theorem g2_may : may2 ((g2xa, g2xb), (g2ya, g2yb), false) := by
  show (g2xa < Pp ∧ g2xb < Pp) ∧ (g2ya < Pp ∧ g2yb < Pp) ∧ mul2 (of2 (g2ya, g2yb)) (of2 (g2ya, g2yb)) = rhs2 (of2 (g2xa, g2xb))
  decide +kernel
end Go.Proofs.Ytobgpmclgacbmaa
