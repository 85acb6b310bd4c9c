/- Whatever numbers are given, chirographlaw03.FrBatch says true. -/
import Derived.Test.YtoahfmgdlpgjoaaFb3
import Derived.Test.YtoahfmgdlpgjoaaOpt
import Derived.Test.YtoahfmgdlpgjoaaOps
import Derived.ChangeMaps5
import Derived.Test.YtoahfmgdlpgjoaaRows
set_option linter.unusedSimpArgs false
set_option linter.unusedVariables false
namespace Go.Proofs.Ytoahfmgdlpgjoaa
open Go.Ev Go.ChangeShapes Go.WideShapes Go.ChangeAt Go.RowKit
def n4K : List K := [K.i .u64, K.i .u64, K.i .u64, K.i .u64]
theorem fit_num4 {vs : List Value} {ks : List K} (h : Fit vs (n4K ++ ks)) : ∃ x us, x < 115792089237316195423570985008687907853269984665640564039457584007913129639936 ∧ vs = limbs 4 x ++ us ∧ Fit us ks := by
  obtain ⟨h1, h2⟩ := Fit.split h
  obtain ⟨x, hx, e⟩ := fit_u64 4 _ h1
  exact ⟨x, _, Nat.lt_of_lt_of_eq hx (by decide), by rw [← e]; exact (List.take_append_drop _ _).symm, h2⟩
theorem val_slice {P : Program} {w : World} {r : Reach} {b0 : Nat} {t e : TypeId} (hu : P.underlying t = some (.slice e)) {a : Addr} {len cap : Nat} (h : Value.okWide P w r b0 t (.slice (some a) len cap)) : a.spot = none ∧ a.block < w.heap.size := by
  unfold Value.okWide at h
  rw [hu] at h
  exact cell_slice h
theorem fit_nil {vs : List Value} (h : Fit vs []) : vs = [] := by
  cases vs with
  | nil => rfl
  | cons => exact h.elim
theorem rows_nums : ∀ rows : List (List Value), (∀ c, c ∈ rows → Fit c n4K) → ∃ l : List Nat, rows.flatten = numC 4 l ∧ l.length = rows.length ∧ ∀ x, x ∈ l → x < 115792089237316195423570985008687907853269984665640564039457584007913129639936
  | [], _ => ⟨[], rfl, rfl, fun g hg => by cases hg⟩
  | c :: rows, h => by
    obtain ⟨x, us, hx, e, hu⟩ := fit_num4 (ks := []) (h c (by simp))
    have hu := fit_nil hu
    subst hu; subst e
    obtain ⟨l, e1, e2, e3⟩ := rows_nums rows (fun c hc => h c (by simp [hc]))
    refine ⟨x :: l, by simp [numC] at e1 ⊢; exact e1, by simp [e2], fun y hy => ?_⟩
    rcases List.mem_cons.1 hy with rfl | hy
    · exact hx
    · exact e3 y hy
theorem Try.own : ownKnob Try.prog.godebug = none := by kernel_rfl
set_option maxRecDepth 100000 in
theorem Try.laid : laidOutB Try.prog = true := by kernel_rfl
set_option maxRecDepth 100000 in
theorem Try.some_blocks : Try.prog.globals.size < (begin Try.prog (fun _ _ => 0) default).world.heap.size := of_decide_eq_true (by kernel_rfl)
set_option maxRecDepth 100000 in
theorem frBatch_lifted (os : Os) (started : os.Started) (H : Type) (enc : TypeId × Value → H) :
    ReturnsInHanded {} Try.checked os 7 .any (Rows.frBatchSpec.pre6 enc Try.prog Try.f7 Rows.frBatchRow.domain false) (Rows.frBatchSpec.post enc Try.prog Try.f7 false true false false) := by
  refine returnsInHanded_of_change_shaped (C := Try.checked) Try.own started (by kernel_rfl) Try.func7
    (ChangeSpec.witness6 (enc := enc) (C := Try.checked) false ⟨#[], #[.slice none 0 0], []⟩ 8 (by kernel_rfl) (by kernel_rfl) (by kernel_rfl) (by kernel_rfl)) ?_
  intro W base args ds vs0 before hval0 hW _ _ hshape _
  have hval : ∀ (j : Nat) t v, Try.f7.params[j]? = some t → args[j]? = some v → Value.okWide Try.prog W .any base t v := hval0
  have hW' := hW
  obtain ⟨p, q, hA0, hV, rfl, _, _⟩ := hW
  have hA : DataW.TrodAll enc Try.prog W 0 (fun _ => true) true Try.f7.params.toList args.toList ds p := hA0
  rw [Try.params7] at hA hval
  obtain ⟨v0, d0, rfl, rfl, h0⟩ := trodAll_one hA
  obtain ⟨rfl, rfl⟩ := trodVars_none hV
  have hpos : 0 < W.heap.size := heap_pos hshape Try.some_blocks
  have ok0 := hval 0 _ v0 rfl rfl
  obtain ⟨a0, len0, cap0, rfl⟩ := okWide_slice Try.underlying42 ok0
  obtain ⟨fu0, hf0⟩ := h0
  have t0 : ShFits W [.slice a0 len0 cap0] [.s n4K] := sh_trod 8 fu0 _ _ _ [.s n4K] (by kernel_rfl) hf0
  have hlt0 := DataW.trod_lt fu0 _ _ _ hf0
  obtain ⟨y0, c0, rows0, e0, hr0, hs0, _⟩ := t0.cons_s
  obtain ⟨rfl, rfl⟩ := List.cons.inj e0
  obtain ⟨ns, g1, g2, g3⟩ := rows_nums rows0 hr0
  have z0 : ZRep W [.l (numC 4 ns)] ns.length (.slice a0 len0 cap0) := by
    rw [← g1, g2]
    exact hs0.zrep hpos (fun a len cap e => val_slice Try.underlying42 (e ▸ ok0))
  clear hA0 hval0
  simp only [List.append_nil] at hW'
  obtain ⟨v, hv, hrun⟩ := frBatch_gives ns g3
  simp only [AV.val?, Option.some.injEq] at hv
  subst hv
  refine (hrun W [_] ⟨z0, trivial⟩).mono fun e W' ⟨he, hbel⟩ => ?_
  subst he
  exact ⟨_, rfl, _, _, _, [], _, [], hW', trodAll_mk1 (shut_bool Try.underlying4 true), trodAll_mk1 (Below.trod Try.laid (by kernel_rfl) (of_decide_eq_true (by kernel_rfl)) ⟨fu0, hf0⟩ hbel hlt0), rfl, hbel.frame _, fun h => by cases h⟩

theorem frBatch_holds : Rows.FrBatchSaid :=
  OpenClaim.holds_of_wide 7 Try.f7 rfl rfl rfl rfl rfl rfl rfl ⟨rfl, rfl, rfl, rfl, rfl⟩ rfl rfl rfl rfl rfl (by kernel_rfl) Try.func7 (by kernel_rfl)
    (of_decide_eq_true (by kernel_rfl)) (by unfold Func.isWrapper; first | (rw [if_pos (by decide +kernel)]; kernel_rfl) | (rw [if_neg (by decide +kernel)]; exact ⟨rfl, rfl⟩))
    (fun os started H enc _ => frBatch_lifted os started H enc)
end Go.Proofs.Ytoahfmgdlpgjoaa
