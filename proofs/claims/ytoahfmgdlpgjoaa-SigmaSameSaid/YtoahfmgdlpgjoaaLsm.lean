/- Whatever places and values are given, chirographlaw19.SigmaSame says true. -/
import Derived.Test.YtoahfmgdlpgjoaaSm2
import Derived.Test.YtoahfmgdlpgjoaaOpt
import Derived.Test.YtoahfmgdlpgjoaaOps
import Derived.ChangeMaps5
import Derived.Test.YtoahfmgdlpgjoaaRows
set_option linter.unusedSimpArgs false
set_option linter.unusedVariables false
namespace Go.Proofs.Ytoahfmgdlpgjoaa
open Go.Ev Go.ChangeShapes Go.WideShapes Go.ChangeAt Go.RowKit
def n4K : List K := [K.i .u64, K.i .u64, K.i .u64, K.i .u64]
def plK : List K := [K.i .i64, K.i .i64]
theorem fit_num4 {vs : List Value} {ks : List K} (h : Fit vs (n4K ++ ks)) : ∃ x us, x < 115792089237316195423570985008687907853269984665640564039457584007913129639936 ∧ vs = limbs 4 x ++ us ∧ Fit us ks := by
  obtain ⟨h1, h2⟩ := Fit.split h
  obtain ⟨x, hx, e⟩ := fit_u64 4 _ h1
  exact ⟨x, _, Nat.lt_of_lt_of_eq hx (by decide), by rw [← e]; exact (List.take_append_drop _ _).symm, h2⟩
theorem fit_nil {vs : List Value} (h : Fit vs []) : vs = [] := by
  cases vs with
  | nil => rfl
  | cons => exact h.elim
theorem rows_nums : ∀ rows : List (List Value), (∀ c, c ∈ rows → Fit c n4K) → ∃ l : List Nat, rows.flatten = numC 4 l ∧ l.length = rows.length ∧ ∀ x, x ∈ l → x < 115792089237316195423570985008687907853269984665640564039457584007913129639936
  | [], _ => ⟨[], rfl, rfl, fun g hg => by cases hg⟩
  | c :: rows, h => by
    obtain ⟨x, us, hx, e, hu⟩ := fit_num4 (ks := []) (h c (by simp))
    have hu := fit_nil hu
    subst hu; subst e
    obtain ⟨l, e1, e2, e3⟩ := rows_nums rows (fun c hc => h c (by simp [hc]))
    refine ⟨x :: l, by simp [numC] at e1 ⊢; exact e1, by simp [e2], fun y hy => ?_⟩
    rcases List.mem_cons.1 hy with rfl | hy
    · exact hx
    · exact e3 y hy
theorem Try.own : ownKnob Try.prog.godebug = none := by kernel_rfl
set_option maxRecDepth 100000 in
theorem Try.laid : laidOutB Try.prog = true := by kernel_rfl
set_option maxRecDepth 100000 in
theorem Try.some_blocks : Try.prog.globals.size < (begin Try.prog (fun _ _ => 0) default).world.heap.size := of_decide_eq_true (by kernel_rfl)
theorem rows_places : ∀ rows : List (List Value), (∀ c, c ∈ rows → Fit c plK) → ∃ l : List (Int × Int), rows.flatten = plC l ∧ l.length = rows.length
  | [], _ => ⟨[], rfl, rfl⟩
  | c :: rows, h => by
    obtain ⟨l, e1, e2⟩ := rows_places rows (fun c hc => h c (by simp [hc]))
    have hc := h c (by simp)
    match c, hc with
    | [.int k0 z0, .int k1 z1], ⟨⟨f0, _⟩, ⟨f1, _⟩, _⟩ =>
      subst f0; subst f1
      exact ⟨(z0, z1) :: l, by simp [plC, plP] at e1 ⊢; exact e1, by simp [e2]⟩
def pick3 {α : Type} (a b c : α) : Nat → α
  | 0 => a
  | 1 => b
  | _ => c
set_option maxRecDepth 100000 in
theorem sigmaSame_lifted (os : Os) (started : os.Started) (H : Type) (enc : TypeId × Value → H) :
    ReturnsInHanded {} Try.checked os 8 .any (Rows.sigmaSameSpec.pre6 enc Try.prog Try.f8 Rows.sigmaSameRow.domain false) (Rows.sigmaSameSpec.post enc Try.prog Try.f8 false true false false) := by
  refine returnsInHanded_of_change_shaped (C := Try.checked) Try.own started (by kernel_rfl) Try.func8
    (ChangeSpec.witness6 (enc := enc) (C := Try.checked) false ⟨#[], #[.agg #[.slice none 0 0, .slice none 0 0, .slice none 0 0], .agg #[.slice none 0 0, .slice none 0 0, .slice none 0 0]], []⟩ 8 (by kernel_rfl) (by kernel_rfl) (by kernel_rfl) (by kernel_rfl)) ?_
  intro W base args ds vs0 before hval0 hW _ _ hshape _
  have hval : ∀ (j : Nat) t v, Try.f8.params[j]? = some t → args[j]? = some v → Value.okWide Try.prog W .any base t v := hval0
  have hW' := hW
  obtain ⟨p, q, hA0, hV, rfl, _, _⟩ := hW
  have hA : DataW.TrodAll enc Try.prog W 0 (fun _ => true) true Try.f8.params.toList args.toList ds p := hA0
  rw [Try.params8] at hA hval
  obtain ⟨v0, v1, d0, d1, p0, p1, rfl, rfl, rfl, h0, h1⟩ := trodAll_two hA
  obtain ⟨rfl, rfl⟩ := trodVars_none hV
  have hpos : 0 < W.heap.size := heap_pos hshape Try.some_blocks
  have ok0 := hval 0 _ v0 rfl rfl
  have ok1 := hval 1 _ v1 rfl rfl
  obtain ⟨cs0, rfl, _⟩ := okWide_array Try.underlying46 ok0
  obtain ⟨cs1, rfl, _⟩ := okWide_array Try.underlying47 ok1
  obtain ⟨fu0, hf0⟩ := h0
  obtain ⟨fu1, hf1⟩ := h1
  have t0 : ShFits W cs0.toList [.s plK, .s plK, .s plK] := sh_trod 8 fu0 _ _ _ [.s plK, .s plK, .s plK] (by kernel_rfl) hf0
  have t1 : ShFits W cs1.toList [.s n4K, .s n4K, .s n4K] := sh_trod 8 fu1 _ _ _ [.s n4K, .s n4K, .s n4K] (by kernel_rfl) hf1
  have hlt0 := DataW.trod_lt fu0 _ _ _ hf0
  have hlt1 := DataW.trod_lt fu1 _ _ _ hf1
  obtain ⟨a0, b0, r0, e0, hr0, hs0, t0⟩ := t0.cons_s
  obtain ⟨a1, b1, r1, e1, hr1, hs1, t0⟩ := t0.cons_s
  obtain ⟨a2, b2, r2, e2, hr2, hs2, t0⟩ := t0.cons_s
  have e3 := t0.nil_eq
  subst e3; subst e2; subst e1
  obtain ⟨a3, b3, r3, e4, hr3, hs3, t1⟩ := t1.cons_s
  obtain ⟨a4, b4, r4, e5, hr4, hs4, t1⟩ := t1.cons_s
  obtain ⟨a5, b5, r5, e6, hr5, hs5, t1⟩ := t1.cons_s
  have e7 := t1.nil_eq
  subst e7; subst e6; subst e5
  obtain ⟨l0, g0, k0⟩ := rows_places r0 hr0
  obtain ⟨l1, g1, k1⟩ := rows_places r1 hr1
  obtain ⟨l2, g2, k2⟩ := rows_places r2 hr2
  obtain ⟨m0, g3, k3, s0⟩ := rows_nums r3 hr3
  obtain ⟨m1, g4, k4, s1⟩ := rows_nums r4 hr4
  obtain ⟨m2, g5, k5, s2⟩ := rows_nums r5 hr5
  have z0 : ZRep W [.l (plC l0)] l0.length a0 := by
    rw [← g0, k0]
    exact hs0.zrep hpos (fun a len cap e => agg_slice (a := a) (len := len) (cap := cap) (by kernel_rfl) ok0 (by rw [e0, e]; simp))
  have z1 : ZRep W [.l (plC l1)] l1.length a1 := by
    rw [← g1, k1]
    exact hs1.zrep hpos (fun a len cap e => agg_slice (a := a) (len := len) (cap := cap) (by kernel_rfl) ok0 (by rw [e0, e]; simp))
  have z2 : ZRep W [.l (plC l2)] l2.length a2 := by
    rw [← g2, k2]
    exact hs2.zrep hpos (fun a len cap e => agg_slice (a := a) (len := len) (cap := cap) (by kernel_rfl) ok0 (by rw [e0, e]; simp))
  have z3 : ZRep W [.l (numC 4 m0)] m0.length a3 := by
    rw [← g3, k3]
    exact hs3.zrep hpos (fun a len cap e => agg_slice (a := a) (len := len) (cap := cap) (by kernel_rfl) ok1 (by rw [e4, e]; simp))
  have z4 : ZRep W [.l (numC 4 m1)] m1.length a4 := by
    rw [← g4, k4]
    exact hs4.zrep hpos (fun a len cap e => agg_slice (a := a) (len := len) (cap := cap) (by kernel_rfl) ok1 (by rw [e4, e]; simp))
  have z5 : ZRep W [.l (numC 4 m2)] m2.length a5 := by
    rw [← g5, k5]
    exact hs5.zrep hpos (fun a len cap e => agg_slice (a := a) (len := len) (cap := cap) (by kernel_rfl) ok1 (by rw [e4, e]; simp))
  have n0 := hs0.len
  have n1 := hs1.len
  have n2 := hs2.len
  have ecs0 : cs0 = #[a0, a1, a2] := Array.toList_inj.1 e0
  have ecs1 : cs1 = #[a3, a4, a5] := Array.toList_inj.1 e4
  clear hA0 hval0
  simp only [List.append_nil] at hW'
  obtain ⟨v, hv, hrun⟩ := sigmaSame_gives (pick3 l0 l1 l2) (pick3 m0 m1 m2) (fun w => match w with | 0 => by show l0.length ≤ _; omega | 1 => by show l1.length ≤ _; omega | _ + 2 => by show l2.length ≤ _; omega)
    (fun w x => match w with | 0 => s0 x | 1 => s1 x | _ + 2 => s2 x)
  simp only [AV.val?, Option.some.injEq] at hv
  subst hv
  refine (hrun W [_, _] ⟨⟨[a0, a1, a2], by rw [ecs0], ⟨_, _, rfl, z0, _, _, rfl, z1, _, _, rfl, z2, rfl⟩⟩, ⟨[a3, a4, a5], by rw [ecs1], ⟨_, _, rfl, z3, _, _, rfl, z4, _, _, rfl, z5, rfl⟩⟩, trivial⟩).mono fun e W' ⟨he, hbel⟩ => ?_
  subst he
  exact ⟨_, rfl, _, _, _, [], _, [], hW', trodAll_mk1 (shut_bool Try.underlying4 true), trodAll_mk2 (Below.trod Try.laid (by kernel_rfl) (of_decide_eq_true (by kernel_rfl)) ⟨fu0, hf0⟩ hbel hlt0) (Below.trod Try.laid (by kernel_rfl) (of_decide_eq_true (by kernel_rfl)) ⟨fu1, hf1⟩ hbel hlt1), rfl, hbel.frame _, fun h => by cases h⟩

theorem sigmaSame_holds : Rows.SigmaSameSaid :=
  OpenClaim.holds_of_wide 8 Try.f8 rfl rfl rfl rfl rfl rfl rfl ⟨rfl, rfl, rfl, rfl, rfl⟩ rfl rfl rfl rfl rfl (by kernel_rfl) Try.func8 (by kernel_rfl)
    (of_decide_eq_true (by kernel_rfl)) (by unfold Func.isWrapper; first | (rw [if_pos (by decide +kernel)]; kernel_rfl) | (rw [if_neg (by decide +kernel)]; exact ⟨rfl, rfl⟩))
    (fun os started H enc _ => sigmaSame_lifted os started H enc)
end Go.Proofs.Ytoahfmgdlpgjoaa
