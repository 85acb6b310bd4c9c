/- Whatever circuit is given, chirographlaw23.FormatCircuits says true: it is written as just those bytes, or refused. -/
import Derived.Test.YtmbllhibdbeplaaFm5
import Derived.Test.YtmbllhibdbeplaaOpt
import Derived.Test.YtmbllhibdbeplaaOps
import Derived.ChangeMaps5
import Derived.Test.YtmbllhibdbeplaaRows
set_option linter.unusedSimpArgs false
set_option linter.unusedVariables false
namespace Go.Proofs.Ytmbllhibdbeplaa
open Go.Ev Go.ChangeShapes Go.WideShapes Go.ChangeAt Go.RowKit
def n4K : List K := [K.i .u64, K.i .u64, K.i .u64, K.i .u64]
def gateK : List K := n4K ++ (n4K ++ (n4K ++ (n4K ++ (n4K ++ [K.i .i64, K.i .i64, K.i .i64]))))
theorem fit_num4 {vs : List Value} {ks : List K} (h : Fit vs (n4K ++ ks)) : ∃ x us, x < 115792089237316195423570985008687907853269984665640564039457584007913129639936 ∧ vs = limbs 4 x ++ us ∧ Fit us ks := by
  obtain ⟨h1, h2⟩ := Fit.split h
  obtain ⟨x, hx, e⟩ := fit_u64 4 _ h1
  exact ⟨x, _, Nat.lt_of_lt_of_eq hx (by decide), by rw [← e]; exact (List.take_append_drop _ _).symm, h2⟩
theorem gate_fit {c : List Value} (h : Fit c gateK) : ∃ g : GT, c = gC g ∧ smG g := by
  obtain ⟨x0, c1, b0, e0, h1⟩ := fit_num4 h
  obtain ⟨x1, c2, b1, e1, h2⟩ := fit_num4 h1
  obtain ⟨x2, c3, b2, e2, h3⟩ := fit_num4 h2
  obtain ⟨x3, c4, b3, e3, h4⟩ := fit_num4 h3
  obtain ⟨x4, c5, b4, e4, h5⟩ := fit_num4 h4
  subst e4 e3 e2 e1 e0
  clear h1 h2 h3 h4 h
  match c5, h5 with
  | [.int k0 z0, .int k1 z1, .int k2 z2], ⟨⟨e0, _⟩, ⟨e1, _⟩, ⟨e2, _⟩, _⟩ =>
    subst e0; subst e1; subst e2
    refine ⟨⟨x0, x1, x2, x3, x4, z0, z1, z2⟩, ?_, fun x hx => ?_⟩
    · simp [gC, gP, flat, Ch.cells]
    · simp only [gN, List.mem_cons, List.not_mem_nil, or_false] at hx
      rcases hx with rfl | rfl | rfl | rfl | rfl <;> assumption
theorem rows_gates : ∀ rows : List (List Value), (∀ c, c ∈ rows → Fit c gateK) → ∃ l : List GT, rows.flatten = gsC l ∧ l.length = rows.length ∧ ∀ g, g ∈ l → smG g
  | [], _ => ⟨[], rfl, rfl, fun g hg => by cases hg⟩
  | c :: rows, h => by
    obtain ⟨g, rfl, hg⟩ := gate_fit (h c (by simp))
    obtain ⟨l, e1, e2, e3⟩ := rows_gates rows (fun c hc => h c (by simp [hc]))
    refine ⟨g :: l, by simp [gsC, e1], by simp [e2], fun y hy => ?_⟩
    rcases List.mem_cons.1 hy with rfl | hy
    · exact hg
    · exact e3 y hy
theorem Try.own : ownKnob Try.prog.godebug = none := by kernel_rfl
set_option maxRecDepth 100000 in
theorem Try.laid : laidOutB Try.prog = true := by kernel_rfl
set_option maxRecDepth 100000 in
theorem Try.some_blocks : Try.prog.globals.size < (begin Try.prog (fun _ _ => 0) default).world.heap.size := of_decide_eq_true (by kernel_rfl)

set_option maxRecDepth 100000 in
theorem formatCircuits_lifted (os : Os) (started : os.Started) (H : Type) (enc : TypeId × Value → H) :
    ReturnsInHanded {} Try.checked os 3 .any (Rows.formatCircuitsSpec.pre6 enc Try.prog Try.f3 Rows.formatCircuitsRow.domain false) (Rows.formatCircuitsSpec.post enc Try.prog Try.f3 false true false false) := by
  refine returnsInHanded_of_change_shaped (C := Try.checked) Try.own started (by kernel_rfl) Try.func3
    (ChangeSpec.witness6 (enc := enc) (C := Try.checked) false ⟨#[], #[.agg #[.slice none 0 0, .int .i64 0, .int .i64 0]], []⟩ 8 (by kernel_rfl) (by kernel_rfl) (by kernel_rfl) (by kernel_rfl)) ?_
  intro W base args ds vs0 before hval0 hW _ _ hshape _
  have hval : ∀ (j : Nat) t v, Try.f3.params[j]? = some t → args[j]? = some v → Value.okWide Try.prog W .any base t v := hval0
  have hW' := hW
  obtain ⟨p, q, hA0, hV, rfl, _, _⟩ := hW
  have hA : DataW.TrodAll enc Try.prog W 0 (fun _ => true) true Try.f3.params.toList args.toList ds p := hA0
  rw [Try.params3] at hA hval
  obtain ⟨v0, d0, rfl, rfl, h0⟩ := trodAll_one hA
  obtain ⟨rfl, rfl⟩ := trodVars_none hV
  have hpos : 0 < W.heap.size := heap_pos hshape Try.some_blocks
  have ok0 := hval 0 _ v0 rfl rfl
  obtain ⟨cs, rfl, _⟩ := okWide_struct Try.underlying24 ok0
  obtain ⟨fuel, hf⟩ := h0
  have hfit0 := sh_trod 8 fuel _ _ _ [.s gateK, .k (.i .i64), .k (.i .i64)] (by kernel_rfl) hf
  have hlt := DataW.trod_lt fuel _ _ _ hf
  obtain ⟨cl⟩ := cs
  have hfit : ShFits W cl [.s gateK, .k (.i .i64), .k (.i .i64)] := hfit0
  obtain ⟨s0, c1, rows, rfl, hr, hsl, f1⟩ := hfit.cons_s
  obtain ⟨pub, c2, rfl, _, f2⟩ := f1.cons_i
  obtain ⟨vars, c3, rfl, _, f3⟩ := f2.cons_i
  have f4 := f3.nil_eq
  subst f4
  · clear hfit0 hfit f1 f2 f3
    obtain ⟨l, g1, g2, g3⟩ := rows_gates rows hr
    have hz : ZRep W [.l (gsC l)] l.length s0 := by
      rw [← g1, g2]
      exact hsl.zrep hpos (fun a len cap e => agg_slice (by kernel_rfl) ok0 (by rw [← e]; simp))
    have hlen : l.length ≤ 9223372036854775807 := by rw [g2]; exact hsl.len
    clear hA0 hval0
    simp only [List.append_nil] at hW'
    obtain ⟨v, hv, hrun⟩ := formatCircuits_gives l pub vars hlen g3
    simp only [AV.val?, Option.some.injEq] at hv
    subst hv
    refine (hrun W [_] ⟨⟨_, rfl, ⟨_, _, rfl, hz, rfl, _, rfl, rfl, _, rfl, rfl⟩⟩, trivial⟩).mono fun e W' ⟨he, hb⟩ => ?_
    subst he
    exact ⟨_, rfl, _, _, _, [], _, [], hW', trodAll_mk1 (shut_bool Try.underlying4 true), trodAll_mk1 (Below.trod Try.laid (by kernel_rfl) (of_decide_eq_true (by kernel_rfl)) ⟨fuel, hf⟩ hb hlt), rfl, hb.frame _, fun h => by cases h⟩

theorem formatCircuits_holds : Rows.FormatCircuitsSaid :=
  OpenClaim.holds_of_wide 3 Try.f3 rfl rfl rfl rfl rfl rfl rfl ⟨rfl, rfl, rfl, rfl, rfl⟩ rfl rfl rfl rfl rfl (by kernel_rfl) Try.func3 (by kernel_rfl)
    (of_decide_eq_true (by kernel_rfl)) (by unfold Func.isWrapper; first | (rw [if_pos (by decide +kernel)]; kernel_rfl) | (rw [if_neg (by decide +kernel)]; exact ⟨rfl, rfl⟩))
    (fun os started H enc _ => formatCircuits_lifted os started H enc)
end Go.Proofs.Ytmbllhibdbeplaa
