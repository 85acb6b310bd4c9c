/- Whatever numbers and exponents are given, chirographlaw07.FullPows says true: powers are products, add up and multiply. -/
import Derived.Test.YtapapelfjjnhmaaPwT
import Derived.Test.YtapapelfjjnhmaaRt
import Derived.Test.YtapapelfjjnhmaaOp5
import Derived.Test.YtapapelfjjnhmaaOpn
import Derived.Test.YtapapelfjjnhmaaRows
set_option linter.unusedSimpArgs false
set_option linter.unusedVariables false
namespace Go.Proofs.Ytapapelfjjnhmaa
open Go.Ev Go.ChangeShapes Go.WideShapes Go.ChangeAt Go.RowKit

theorem rpow_0 (a : F12) : Gives Try.prog 9 [.t (.ag (q12 a)), .t (.v (.int .i64 0))] (.ag (q12 (pwT a 0))) := fn_gives (P := Try.prog) (env := [eMul12r, eOne12r]) ⟨eMul12r_ok, eOne12r_ok, trivial⟩ Try.func9 0 o0 (by kernel_rfl) trivial
theorem rpow_1 (a : F12) : Gives Try.prog 9 [.t (.ag (q12 a)), .t (.v (.int .i64 1))] (.ag (q12 (pwT a 1))) := fn_gives (P := Try.prog) (env := [eMul12r, eOne12r]) ⟨eMul12r_ok, eOne12r_ok, trivial⟩ Try.func9 0 o0 (by kernel_rfl) trivial
theorem rpow_2 (a : F12) : Gives Try.prog 9 [.t (.ag (q12 a)), .t (.v (.int .i64 2))] (.ag (q12 (pwT a 2))) := fn_gives (P := Try.prog) (env := [eMul12r, eOne12r]) ⟨eMul12r_ok, eOne12r_ok, trivial⟩ Try.func9 0 o0 (by kernel_rfl) trivial
theorem rpow_3 (a : F12) : Gives Try.prog 9 [.t (.ag (q12 a)), .t (.v (.int .i64 3))] (.ag (q12 (pwT a 3))) := fn_gives (P := Try.prog) (env := [eMul12r, eOne12r]) ⟨eMul12r_ok, eOne12r_ok, trivial⟩ Try.func9 0 o0 (by kernel_rfl) trivial
theorem rpow_4 (a : F12) : Gives Try.prog 9 [.t (.ag (q12 a)), .t (.v (.int .i64 4))] (.ag (q12 (pwT a 4))) := fn_gives (P := Try.prog) (env := [eMul12r, eOne12r]) ⟨eMul12r_ok, eOne12r_ok, trivial⟩ Try.func9 0 o0 (by kernel_rfl) trivial
theorem rpow_5 (a : F12) : Gives Try.prog 9 [.t (.ag (q12 a)), .t (.v (.int .i64 5))] (.ag (q12 (pwT a 5))) := fn_gives (P := Try.prog) (env := [eMul12r, eOne12r]) ⟨eMul12r_ok, eOne12r_ok, trivial⟩ Try.func9 0 o0 (by kernel_rfl) trivial
theorem rpow (a : F12) (z : Int) (h : 0 ≤ z ∧ z ≤ 5) : Gives Try.prog 9 [.t (.ag (q12 a)), .t (.v (.int .i64 z))] (.ag (q12 (pwT a z.toNat))) := by
  obtain h | h | h | h | h | h : z = 0 ∨ z = 1 ∨ z = 2 ∨ z = 3 ∨ z = 4 ∨ z = 5 := by omega
  · subst h; exact rpow_0 a
  · subst h; exact rpow_1 a
  · subst h; exact rpow_2 a
  · subst h; exact rpow_3 a
  · subst h; exact rpow_4 a
  · subst h; exact rpow_5 a
def eRPow : Entry := entry2 9 parQ12.x (XPar.int .i64) (fun a z => [(some (0 ≤ z ∧ z ≤ 5), .ag (q12 (pwT a z.toNat)))])
theorem eRPow_ok : eRPow.OK Try.prog := entry2_ok (fun args w => Go.Proofs.enters_of (P := Try.prog) Try.func9 (by kernel_rfl) rfl args w) (fun a z => onlyIf (fun h => rpow a z h))
theorem lim_at (n : Nat) (h : n < 18446744073709551616) : n % 18446744073709551616 + 18446744073709551616 * 0 = n := by rw [Nat.mul_zero, Nat.add_zero, Nat.mod_eq_of_lt h]
theorem pwT_mul (x y : F12) : ∀ n, pwT (mul12 x y) n = mul12 (pwT x n) (pwT y n)
  | 0 => (mul12_one one12).symm
  | n + 1 => by
    have e : ∀ p q r s : F12, mul12 (mul12 p q) (mul12 r s) = mul12 (mul12 p r) (mul12 q s) := fun p q r s => by
      rw [mul12_assoc, ← mul12_assoc q r s, mul12_comm q r, mul12_assoc r q s, ← mul12_assoc]
    show mul12 (pwT (mul12 x y) n) (mul12 x y) = mul12 (mul12 (pwT x n) x) (mul12 (pwT y n) y)
    rw [pwT_mul x y n, e]
def cl (n : Int) : Int := if 5 < (if 0 > n then 0 else n) then 5 else (if 0 > n then 0 else n)
theorem cl_le (n : Int) : 0 ≤ cl n ∧ cl n ≤ 5 := by unfold cl; split <;> split <;> omega
theorem lim_lt (n : Nat) : n % 18446744073709551616 + 18446744073709551616 * 0 < 18446744073709551616 ^ 6 := Nat.lt_of_lt_of_le (show n % 18446744073709551616 + 18446744073709551616 * 0 < 18446744073709551616 by rw [Nat.mul_zero, Nat.add_zero]; exact Nat.mod_lt _ (by decide)) (by decide)
def ePowC : Entry := entry2 7 par12 XPar.lim (fun a h => [(some (sm12 a), .ag (q12 (pwT (el12 a) (h % 18446744073709551616 + 18446744073709551616 * 0))))])
theorem ePowC_ok : ePowC.OK Try.prog := entry2_ok (fun args w => Go.Proofs.enters_of (P := Try.prog) Try.func7 (by kernel_rfl) rfl args w) (fun a n => match a with
  | .inl a => onlyIf (fun h => fn_gives (P := Try.prog) (env := [eUPow]) ⟨eUPow_ok, trivial⟩ Try.func7 0 o0 (by kernel_rfl) (And.intro (show sm12 (.inl a) ∧ n % 18446744073709551616 + 18446744073709551616 * 0 < 18446744073709551616 ^ 6 from ⟨trivial, lim_lt n⟩) trivial))
  | .inr a => onlyIf (fun h => fn_gives (P := Try.prog) (env := [eUPow]) ⟨eUPow_ok, trivial⟩ Try.func7 0 o0 (by kernel_rfl) (And.intro (show sm12 (.inr a) ∧ n % 18446744073709551616 + 18446744073709551616 * 0 < 18446744073709551616 ^ 6 from ⟨h, lim_lt n⟩) trivial)))
def nO (x : Nat) : Ora := { ch := 2, hi := fun _ => x }
theorem fullPows_at (a b : N12) (n : Int) (s t : Nat) (ha : small12 a) (hb : small12 b) (hz : ∀ n, (cl n).toNat < 18446744073709551616) (hs : s < 4294967296) (ht : t < 4294967296) (hm : s * t < 18446744073709551616) : Gives Try.prog 3 [.t (.ag (n12 a)), .t (.ag (n12 b)), .t (.v (.int .i64 n)), .t (.v (.int .u32 ((s : Nat) : Int))), .t (.v (.int .u32 ((t : Nat) : Int)))] (.v (.bool true)) :=
  fn_gives (P := Try.prog) (env := [eRPow, ePowC, eUMul, eClean12, eAl7]) ⟨eRPow_ok, ePowC_ok, eUMul_ok, eClean12_ok, eAl7_ok, trivial⟩ Try.func3 0 (oL [(8, hdO 10), (18, hdO 14), (32, hdO 49), (11, nO (cl n).toNat), (21, nO s), (26, nO t), (40, nO s), (42, nO t), (51, nO t), (56, nO s), (58, nO t), (69, nO s), (75, nO s)]) (by kernel_rfl)
      (And.intro (show flat (q12 (pwT (mul12 (of12 a) (of12 b)) (s % 18446744073709551616 + 18446744073709551616 * 0))) = flat (q12 (mul12 (pwT (of12 a) (s % 18446744073709551616 + 18446744073709551616 * 0)) (pwT (of12 b) (s % 18446744073709551616 + 18446744073709551616 * 0)))) from by rw [pwT_mul]) 
      (And.intro (show sm12 (.inl (pwT (of12 a) (s % 18446744073709551616 + 18446744073709551616 * 0))) ∧ sm12 (.inl (pwT (of12 b) (s % 18446744073709551616 + 18446744073709551616 * 0))) from ⟨trivial, trivial⟩) 
      (And.intro (show sm12 (.inr b) from hb) 
      (And.intro (show IntKind.u64 = IntKind.u64 ∧ IntKind.u64.wrap ((s : Nat) : Int) = ((s % 18446744073709551616 : Nat) : Int) from ⟨rfl, by rw [wrap_u64]; omega⟩) 
      (And.intro (show sm12 (.inl (mul12 (of12 a) (of12 b))) from trivial) 
      (And.intro (show IntKind.u64 = IntKind.u64 ∧ IntKind.u64.wrap ((s : Nat) : Int) = ((s % 18446744073709551616 : Nat) : Int) from ⟨rfl, by rw [wrap_u64]; omega⟩) 
      (And.intro (show sm12 (.inr a) ∧ sm12 (.inr b) from ⟨ha, hb⟩) 
      (And.intro (show flat (q12 (pwT (pwT (of12 a) (s % 18446744073709551616 + 18446744073709551616 * 0)) (t % 18446744073709551616 + 18446744073709551616 * 0))) = flat (q12 (pwT (of12 a) ((s * t) % 18446744073709551616 + 18446744073709551616 * 0))) from by rw [lim_at s (by omega), lim_at t (by omega), lim_at (s * t) hm]; exact congrArg (fun z => flat (q12 z)) (G12.pw_mul (of12 a) s t).symm) 
      (And.intro (show sm12 (.inr a) from ha) 
      (And.intro (show IntKind.u64 = IntKind.u64 ∧ IntKind.u64.wrap ((t : Nat) : Int) = ((t % 18446744073709551616 : Nat) : Int) from ⟨rfl, by rw [wrap_u64]; omega⟩) 
      (And.intro (show IntKind.u64 = IntKind.u64 ∧ IntKind.u64.wrap ((s : Nat) : Int) = ((s % 18446744073709551616 : Nat) : Int) from ⟨rfl, by rw [wrap_u64]; omega⟩) 
      (And.intro (show sm12 (.inl (pwT (of12 a) (s % 18446744073709551616 + 18446744073709551616 * 0))) from trivial) 
      (And.intro (show IntKind.u64 = IntKind.u64 ∧ IntKind.u64.wrap ((t : Nat) : Int) = ((t % 18446744073709551616 : Nat) : Int) from ⟨rfl, by rw [wrap_u64]; omega⟩) 
      (And.intro (show flat (q12 (mul12 (pwT (of12 a) (s % 18446744073709551616 + 18446744073709551616 * 0)) (pwT (of12 a) (t % 18446744073709551616 + 18446744073709551616 * 0)))) = flat (q12 (pwT (of12 a) ((s + t) % 18446744073709551616 + 18446744073709551616 * 0))) from by rw [lim_at s (by omega), lim_at t (by omega), lim_at (s + t) (by omega)]; exact congrArg (fun z => flat (q12 z)) (G12.pw_add (of12 a) s t).symm) 
      (And.intro (show sm12 (.inr a) from ha) 
      (And.intro (show IntKind.u64 = IntKind.u64 ∧ IntKind.u64.wrap ((t : Nat) : Int) = ((t % 18446744073709551616 : Nat) : Int) from ⟨rfl, by rw [wrap_u64]; omega⟩) 
      (And.intro (show IntKind.u64 = IntKind.u64 ∧ IntKind.u64.wrap ((s : Nat) : Int) = ((s % 18446744073709551616 : Nat) : Int) from ⟨rfl, by rw [wrap_u64]; omega⟩) 
      (And.intro (show sm12 (.inl (pwT (of12 a) (s % 18446744073709551616 + 18446744073709551616 * 0))) ∧ sm12 (.inl (pwT (of12 a) (t % 18446744073709551616 + 18446744073709551616 * 0))) from ⟨trivial, trivial⟩) 
      (And.intro (show sm12 (.inr a) from ha) 
      (And.intro (show IntKind.u64 = IntKind.u64 ∧ IntKind.u64.wrap ((t : Nat) : Int) = ((t % 18446744073709551616 : Nat) : Int) from ⟨rfl, by rw [wrap_u64]; omega⟩) 
      (And.intro (show sm12 (.inr a) from ha) 
      (And.intro (show IntKind.u64 = IntKind.u64 ∧ IntKind.u64.wrap ((s : Nat) : Int) = ((s % 18446744073709551616 : Nat) : Int) from ⟨rfl, by rw [wrap_u64]; omega⟩) 
      (And.intro (show flat (q12 (pwT (of12 a) ((cl n).toNat % 18446744073709551616 + 18446744073709551616 * 0))) = flat (q12 (pwT (of12 a) (cl n).toNat)) from by rw [lim_at _ (hz n)]) 
      (And.intro (show 0 ≤ cl n ∧ cl n ≤ 5 from cl_le n) 
      (And.intro (show small12 a from ha) 
      (And.intro (show sm12 (.inr a) from ha) 
      (And.intro (show IntKind.u64 = IntKind.u64 ∧ IntKind.u64.wrap (cl n) = (((cl n).toNat % 18446744073709551616 : Nat) : Int) from ⟨rfl, by have := cl_le n; rw [wrap_u64]; omega⟩) trivial)))))))))))))))))))))))))))

theorem fullPows_gives (a b : N12) (n s t : Int) (ha : small12 a) (hb : small12 b) (hn : (Lit.int .i64 n).wf = true) (hs : (Lit.int .u32 s).wf = true) (ht : (Lit.int .u32 t).wf = true) : Gives Try.prog 3 [.t (.ag (n12 a)), .t (.ag (n12 b)), .t (.v (.int .i64 n)), .t (.v (.int .u32 s)), .t (.v (.int .u32 t))] (.v (.bool true)) := by
  have b1 := bounds_u32 hs
  have b2 := bounds_u32 ht
  obtain ⟨s, rfl⟩ : ∃ n : Nat, s = ((n : Nat) : Int) := ⟨s.toNat, by omega⟩
  obtain ⟨t, rfl⟩ : ∃ n : Nat, t = ((n : Nat) : Int) := ⟨t.toNat, by omega⟩
  have h1 : s ≤ 4294967295 := by omega
  have h2 : t ≤ 4294967295 := by omega
  exact fullPows_at a b n s t ha hb (fun n => by have := cl_le n; omega) (by omega) (by omega) (Nat.lt_of_le_of_lt (Nat.mul_le_mul h1 h2) (by decide))

theorem Try.own : ownKnob Try.prog.godebug = none := by kernel_rfl

set_option maxRecDepth 100000 in
theorem fullPows_lifted (os : Os) (started : os.Started) (H : Type) (enc : TypeId × Value → H) :
    ReturnsInHanded {} Try.checked os 3 .any (Rows.fullPowsSpec.pre6 enc Try.prog Try.f3 Rows.fullPowsRow.domain false) (Rows.fullPowsSpec.post enc Try.prog Try.f3 false true false false) := by
  refine returnsInHanded_of_change (C := Try.checked) Try.own started (by kernel_rfl) Try.func3
    (ChangeSpec.witness6 (enc := enc) (C := Try.checked) false ⟨#[], #[.agg (Array.replicate 72 (.int .u64 0)), .agg (Array.replicate 72 (.int .u64 0)), .int .i64 0, .int .u32 0, .int .u32 0], []⟩ 8 (by kernel_rfl) (by kernel_rfl) (by kernel_rfl) (by kernel_rfl)) ?_
  intro W base args ds gs before hval0 hW _ _
  have hval : ∀ (j : Nat) t v, Try.f3.params[j]? = some t → args[j]? = some v → Value.okWide Try.prog W .any base t v := hval0
  have hW' := hW
  obtain ⟨p, q, hA0, hV, rfl, _, _⟩ := hW
  have hA : DataW.TrodAll enc Try.prog W 0 (fun _ => true) true Try.f3.params.toList args.toList ds p := hA0
  rw [Try.params3] at hA hval
  obtain ⟨v0, v1, v2, v3, v4, d0, d1, d2, d3, d4, p0, p1, p2, p3, p4, rfl, rfl, rfl, h0, h1, h2, h3, h4⟩ := trodAll_five hA
  obtain ⟨rfl, rfl⟩ := trodVars_none hV
  obtain ⟨c0, rfl, u0, l0, rfl, s0⟩ := open_flat 8 (by kernel_rfl) (by kernel_rfl) (hval 0 _ v0 rfl rfl) h0
  obtain ⟨x0, b0, rfl⟩ := u_n12 c0 u0 (l0.trans (by kernel_rfl))
  obtain ⟨c1, rfl, u1, l1, rfl, s1⟩ := open_flat 8 (by kernel_rfl) (by kernel_rfl) (hval 1 _ v1 rfl rfl) h1
  obtain ⟨x1, b1, rfl⟩ := u_n12 c1 u1 (l1.trans (by kernel_rfl))
  obtain ⟨x2, rfl, rfl, rfl, b2⟩ := open_int (k := .i64) Try.underlying3 (hval 2 _ v2 rfl rfl) h2
  obtain ⟨x3, rfl, rfl, rfl, b3⟩ := open_int (k := .u32) Try.underlying31 (hval 3 _ v3 rfl rfl) h3
  obtain ⟨x4, rfl, rfl, rfl, b4⟩ := open_int (k := .u32) Try.underlying31 (hval 4 _ v4 rfl rfl) h4
  clear hA0 hval0
  simp only [List.append_nil] at hW'
  obtain ⟨v, hv, hrun⟩ := fullPows_gives x0 x1 x2 x3 x4 b0 b1 b2 b3 b4
  simp only [AV.val?, Option.some.injEq] at hv
  subst hv
  refine (hrun W [_, _, _, _, _] ⟨rfl, rfl, rfl, rfl, rfl, trivial⟩).mono fun e W' ⟨he, hb⟩ => ?_
  subst he
  exact ⟨_, rfl, _, _, _, [], [], [], hW', trodAll_mk1 (shut_bool Try.underlying4 true), trodAll_mk5 (s0 _ _ _ _) (s1 _ _ _ _) (shut_int Try.underlying3 b2) (shut_int Try.underlying31 b3) (shut_int Try.underlying31 b4), rfl, hb.frame _, fun h => by cases h⟩

theorem fullPows_holds : Rows.FullPowsSaid :=
  OpenClaim.holds_of_wide 3 Try.f3 rfl rfl rfl rfl rfl rfl rfl ⟨rfl, rfl, rfl, rfl, rfl⟩ rfl rfl rfl rfl rfl (by kernel_rfl) Try.func3 (by kernel_rfl)
    (of_decide_eq_true (by kernel_rfl)) (by unfold Func.isWrapper; first | (rw [if_pos (by decide +kernel)]; kernel_rfl) | (rw [if_neg (by decide +kernel)]; exact ⟨rfl, rfl⟩))
    (fun os started H enc _ => fullPows_lifted os started H enc)
end Go.Proofs.Ytapapelfjjnhmaa
