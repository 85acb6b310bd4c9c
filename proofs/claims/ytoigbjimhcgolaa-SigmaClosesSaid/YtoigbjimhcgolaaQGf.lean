/- Pruned: Gf. -/
import Derived.Test.YtoigbjimhcgolaaQHb
import Derived.Test.YtoigbjimhcgolaaQE2
import Derived.Test.YtoigbjimhcgolaaProg
import Derived.Test.YtoigbjimhcgolaaQGa
/- The contract of the layer fr: which numbers are elements. -/
set_option linter.unusedSimpArgs false
set_option linter.unusedVariables false
namespace Go.Proofs.Ytoigbjimhcgolaa
open Go.Ev Go.RowKit

end Go.Proofs.Ytoigbjimhcgolaa

/- Contracts: numbers as bytes and back, the layer fr and its reference. -/
set_option linter.unusedSimpArgs false
set_option linter.unusedVariables false
namespace Go.Proofs.Ytoigbjimhcgolaa
open Go.Ev Go.RowKit

end Go.Proofs.Ytoigbjimhcgolaa

/- Contracts of format.clean and of chirographlaw23.clean, numbers, count: lists of elements, counts as bytes. -/
set_option linter.unusedSimpArgs false
set_option linter.unusedVariables false
namespace Go.Proofs.Ytoigbjimhcgolaa
open Go.Ev Go.RowKit
def cleanN (ns : List Nat) : Prop := ∀ x, x ∈ ns → x < Rr
instance (ns : List Nat) : Decidable (cleanN ns) := inferInstanceAs (Decidable (∀ x, x ∈ ns → x < Rr))
/-! format.clean -/
end Go.Proofs.Ytoigbjimhcgolaa

/- Contracts of chirographlaw23.clean, numbers and count, and of format.count. -/
set_option linter.unusedSimpArgs false
set_option linter.unusedVariables false
namespace Go.Proofs.Ytoigbjimhcgolaa
open Go.Ev Go.RowKit
/-! chirographlaw23.clean -/
/-! chirographlaw23.numbers -/
/-! counts -/
def b4 (k : IntKind) (n : Int) : List UInt8 := [UInt8.ofNat (IntKind.u8.wrap (n.fdiv (2 ^ min 24 k.bits))).toNat, UInt8.ofNat (IntKind.u8.wrap (n.fdiv (2 ^ min 16 k.bits))).toNat, UInt8.ofNat (IntKind.u8.wrap (n.fdiv (2 ^ min 8 k.bits))).toNat, UInt8.ofNat (IntKind.u8.wrap n).toNat]
end Go.Proofs.Ytoigbjimhcgolaa

/- Contracts of circuit.Right and of chirographref18.Right: which circuits may be. -/
set_option linter.unusedSimpArgs false
set_option linter.unusedVariables false
namespace Go.Proofs.Ytoigbjimhcgolaa
open Go.Ev Go.RowKit
structure GT where
  q0 : Nat
  q1 : Nat
  q2 : Nat
  q3 : Nat
  q4 : Nat
  w0 : Int
  w1 : Int
  w2 : Int
def gP (g : GT) : List Ch := [.n 4 g.q0, .n 4 g.q1, .n 4 g.q2, .n 4 g.q3, .n 4 g.q4, .c (.int .i64 g.w0), .c (.int .i64 g.w1), .c (.int .i64 g.w2)]
def gC (g : GT) : List Value := flat (gP g)
theorem gC_length (g : GT) : (gC g).length = 23 := by unfold gC gP; simp [flat, Ch.cells, limbs_length]
def gsC (gs : List GT) : List Value := gs.flatMap gC
def bw (vars v : Int) : Prop := v < -1 ∨ v ≥ vars
instance (vars v : Int) : Decidable (bw vars v) := inferInstanceAs (Decidable (_ ∨ _))
def okW (vars : Int) (g : GT) : Prop := ¬ bw vars g.w0 ∧ ¬ bw vars g.w1 ∧ ¬ bw vars g.w2
instance (vars : Int) (g : GT) : Decidable (okW vars g) := inferInstanceAs (Decidable (_ ∧ _))
def rightC (gs : List GT) (pub vars : Int) : Prop := gs.length ≤ 4096 ∧ 0 ≤ pub ∧ pub ≤ gs.length ∧ 0 ≤ vars ∧ ∀ g, g ∈ gs → okW vars g
theorem gate_at (gs : List GT) (i : Nat) (g : GT) (h : gs[i]? = some g) : sizes (gP g) = 23 ∧ ((flat [.l (gsC gs)]).drop (i * 23)).take 23 = flat (gP g) := by
  refine ⟨rfl, ?_⟩
  rw [flat_l]
  exact rows_at gC gC_length gs i g h
theorem gate_bad (vars : Int) : ∀ gs : List GT, (∀ g, g ∈ gs → okW vars g) ∨ ∃ (j : Nat) (g : GT), gs[j]? = some g ∧ ¬ okW vars g ∧ ∀ (i : Nat) (y : GT), i < j → gs[i]? = some y → okW vars y
  | [] => .inl (fun x hx => by cases hx)
  | n :: ns => by
    by_cases h : okW vars n
    · rcases gate_bad vars ns with h1 | ⟨j, x, h1, h2, h3⟩
      · exact .inl (fun x hx => by rcases List.mem_cons.1 hx with rfl | hx; exact h; exact h1 x hx)
      · refine .inr ⟨j + 1, x, h1, h2, fun i y hi hy => ?_⟩
        match i, hy with
        | 0, hy => simp only [List.getElem?_cons_zero, Option.some.injEq] at hy; subst hy; exact h
        | i + 1, hy => exact h3 i y (by omega) (by simpa using hy)
    · exact .inr ⟨0, n, rfl, h, fun i y hi => by omega⟩
theorem glt {gs : List GT} {i : Nat} {x : GT} (h : gs[i]? = some x) : i < gs.length := (List.getElem?_eq_some_iff.1 h).1
theorem gmem {gs : List GT} {i : Nat} {x : GT} (h : gs[i]? = some x) : x ∈ gs := List.mem_of_getElem? h
theorem gof {gs : List GT} {i : Nat} (h : i < gs.length) : ∃ x, gs[i]? = some x := ⟨_, List.getElem?_eq_getElem h⟩
theorem nlt {vars v : Int} (h : ¬ bw vars v) : decide (v < -1) = false := decide_eq_false (fun e => h (.inl e))
theorem nge {vars v : Int} (h : ¬ bw vars v) : decide (v ≥ vars) = false := decide_eq_false (fun e => h (.inr e))
/-! chirographref18.Right -/
def r8I (gs : List GT) (pub vars z : Int) : LState := { n := 51, sl := [(1, .p 4 0), (8, .sz 0 gs.length), (9, .v (.int .i64 ((gs.length : Nat) : Int))), (10, .v (.int .i64 z))], hp := [(0, .rz [.l (gsC gs)]), (4, .own [.sz 0 gs.length, .c (.int .i64 pub), .c (.int .i64 vars)] 24)] }
def r8E (gs : List GT) (pub vars : Int) : LState := { n := 51, sl := [(1, .p 4 0)], hp := [(0, .rz [.l (gsC gs)]), (4, .own [.sz 0 gs.length, .c (.int .i64 pub), .c (.int .i64 vars)] 24)] }
def r8F (gs : List GT) (pub vars : Int) : LState := { n := 51, sl := [(2, .v (.bool false))], hp := [(0, .rz [.l (gsC gs)]), (4, .own [.sz 0 gs.length, .c (.int .i64 pub), .c (.int .i64 vars)] 24)] }
theorem r8_l0 (gs : List GT) (pub vars : Int) (i : Nat) (g : GT) (hg : gs[i]? = some g) (hb : g.w0 < -1) : Sound Try.prog 0 false (loopB Try.f28 0) (r8I gs pub vars (i : Int)).aa .ret (r8F gs pub vars).aa := by
  have hi := glt hg
  exact roundK_sound (P := Try.prog) (X := rulesY _) (env := []) trivial (n := 0) (os := oL [(10, wT), (11, rO 14 i), (12, { ch := 0, hi := fun _ => 0, ru := 8, cs := fun _ => gP g }), (22, wT)]) (fb := 0) (rd := false) (c := (loopB Try.f28 0)) (k := 10) (I := r8I gs pub vars (i : Int)) (sk := [2]) (hk := [0, 4]) (lk := []) (ex := .ret)
    (L := r8F gs pub vars) (by kernel_rfl)
    (And.intro (show decide (g.w0 < -1) = true from decide_eq_true hb)
      (And.intro (gate_at gs i g hg)
      (And.intro (show (i : Int) = ((i : Nat) : Int) ∧ i < gs.length from ⟨rfl, hi⟩)
      (And.intro (show decide ((i : Int) < ((gs.length : Nat) : Int)) = true from decide_eq_true (by omega)) trivial))))
theorem r8_h0 (gs : List GT) (pub vars : Int) (i : Nat) (g : GT) (hg : gs[i]? = some g) (ha : ¬ g.w0 < -1) (hb : g.w0 ≥ vars) : Sound Try.prog 0 false (loopB Try.f28 0) (r8I gs pub vars (i : Int)).aa .ret (r8F gs pub vars).aa := by
  have hi := glt hg
  exact roundK_sound (P := Try.prog) (X := rulesY _) (env := []) trivial (n := 0) (os := oL [(10, wT), (11, rO 14 i), (12, { ch := 0, hi := fun _ => 0, ru := 8, cs := fun _ => gP g }), (22, wF), (27, wT)]) (fb := 0) (rd := false) (c := (loopB Try.f28 0)) (k := 10) (I := r8I gs pub vars (i : Int)) (sk := [2]) (hk := [0, 4]) (lk := []) (ex := .ret)
    (L := r8F gs pub vars) (by kernel_rfl)
    (And.intro (show decide (g.w0 ≥ vars) = true from decide_eq_true hb)
      (And.intro (show decide (g.w0 < -1) = false from decide_eq_false ha)
      (And.intro (gate_at gs i g hg)
      (And.intro (show (i : Int) = ((i : Nat) : Int) ∧ i < gs.length from ⟨rfl, hi⟩)
      (And.intro (show decide ((i : Int) < ((gs.length : Nat) : Int)) = true from decide_eq_true (by omega)) trivial)))))
theorem r8_l1 (gs : List GT) (pub vars : Int) (i : Nat) (g : GT) (hg : gs[i]? = some g) (h0 : ¬ bw vars g.w0) (hb : g.w1 < -1) : Sound Try.prog 0 false (loopB Try.f28 0) (r8I gs pub vars (i : Int)).aa .ret (r8F gs pub vars).aa := by
  have hi := glt hg
  exact roundK_sound (P := Try.prog) (X := rulesY _) (env := []) trivial (n := 0) (os := oL [(10, wT), (11, rO 14 i), (12, { ch := 0, hi := fun _ => 0, ru := 8, cs := fun _ => gP g }), (22, wF), (27, wF), (35, wT)]) (fb := 0) (rd := false) (c := (loopB Try.f28 0)) (k := 10) (I := r8I gs pub vars (i : Int)) (sk := [2]) (hk := [0, 4]) (lk := []) (ex := .ret)
    (L := r8F gs pub vars) (by kernel_rfl)
    (And.intro (show decide (g.w1 < -1) = true from decide_eq_true hb)
      (And.intro (show decide (g.w0 ≥ vars) = false from nge h0)
      (And.intro (show decide (g.w0 < -1) = false from nlt h0)
      (And.intro (gate_at gs i g hg)
      (And.intro (show (i : Int) = ((i : Nat) : Int) ∧ i < gs.length from ⟨rfl, hi⟩)
      (And.intro (show decide ((i : Int) < ((gs.length : Nat) : Int)) = true from decide_eq_true (by omega)) trivial))))))
theorem r8_h1 (gs : List GT) (pub vars : Int) (i : Nat) (g : GT) (hg : gs[i]? = some g) (h0 : ¬ bw vars g.w0) (ha : ¬ g.w1 < -1) (hb : g.w1 ≥ vars) : Sound Try.prog 0 false (loopB Try.f28 0) (r8I gs pub vars (i : Int)).aa .ret (r8F gs pub vars).aa := by
  have hi := glt hg
  exact roundK_sound (P := Try.prog) (X := rulesY _) (env := []) trivial (n := 0) (os := oL [(10, wT), (11, rO 14 i), (12, { ch := 0, hi := fun _ => 0, ru := 8, cs := fun _ => gP g }), (22, wF), (27, wF), (35, wF), (40, wT)]) (fb := 0) (rd := false) (c := (loopB Try.f28 0)) (k := 10) (I := r8I gs pub vars (i : Int)) (sk := [2]) (hk := [0, 4]) (lk := []) (ex := .ret)
    (L := r8F gs pub vars) (by kernel_rfl)
    (And.intro (show decide (g.w1 ≥ vars) = true from decide_eq_true hb)
      (And.intro (show decide (g.w1 < -1) = false from decide_eq_false ha)
      (And.intro (show decide (g.w0 ≥ vars) = false from nge h0)
      (And.intro (show decide (g.w0 < -1) = false from nlt h0)
      (And.intro (gate_at gs i g hg)
      (And.intro (show (i : Int) = ((i : Nat) : Int) ∧ i < gs.length from ⟨rfl, hi⟩)
      (And.intro (show decide ((i : Int) < ((gs.length : Nat) : Int)) = true from decide_eq_true (by omega)) trivial)))))))
theorem r8_l2 (gs : List GT) (pub vars : Int) (i : Nat) (g : GT) (hg : gs[i]? = some g) (h0 : ¬ bw vars g.w0) (h1 : ¬ bw vars g.w1) (hb : g.w2 < -1) : Sound Try.prog 0 false (loopB Try.f28 0) (r8I gs pub vars (i : Int)).aa .ret (r8F gs pub vars).aa := by
  have hi := glt hg
  exact roundK_sound (P := Try.prog) (X := rulesY _) (env := []) trivial (n := 0) (os := oL [(10, wT), (11, rO 14 i), (12, { ch := 0, hi := fun _ => 0, ru := 8, cs := fun _ => gP g }), (22, wF), (27, wF), (35, wF), (40, wF), (48, wT)]) (fb := 0) (rd := false) (c := (loopB Try.f28 0)) (k := 10) (I := r8I gs pub vars (i : Int)) (sk := [2]) (hk := [0, 4]) (lk := []) (ex := .ret)
    (L := r8F gs pub vars) (by kernel_rfl)
    (And.intro (show decide (g.w2 < -1) = true from decide_eq_true hb)
      (And.intro (show decide (g.w1 ≥ vars) = false from nge h1)
      (And.intro (show decide (g.w1 < -1) = false from nlt h1)
      (And.intro (show decide (g.w0 ≥ vars) = false from nge h0)
      (And.intro (show decide (g.w0 < -1) = false from nlt h0)
      (And.intro (gate_at gs i g hg)
      (And.intro (show (i : Int) = ((i : Nat) : Int) ∧ i < gs.length from ⟨rfl, hi⟩)
      (And.intro (show decide ((i : Int) < ((gs.length : Nat) : Int)) = true from decide_eq_true (by omega)) trivial))))))))
theorem r8_h2 (gs : List GT) (pub vars : Int) (i : Nat) (g : GT) (hg : gs[i]? = some g) (h0 : ¬ bw vars g.w0) (h1 : ¬ bw vars g.w1) (ha : ¬ g.w2 < -1) (hb : g.w2 ≥ vars) : Sound Try.prog 0 false (loopB Try.f28 0) (r8I gs pub vars (i : Int)).aa .ret (r8F gs pub vars).aa := by
  have hi := glt hg
  exact roundK_sound (P := Try.prog) (X := rulesY _) (env := []) trivial (n := 0) (os := oL [(10, wT), (11, rO 14 i), (12, { ch := 0, hi := fun _ => 0, ru := 8, cs := fun _ => gP g }), (22, wF), (27, wF), (35, wF), (40, wF), (48, wF), (53, wT)]) (fb := 0) (rd := false) (c := (loopB Try.f28 0)) (k := 10) (I := r8I gs pub vars (i : Int)) (sk := [2]) (hk := [0, 4]) (lk := []) (ex := .ret)
    (L := r8F gs pub vars) (by kernel_rfl)
    (And.intro (show decide (g.w2 ≥ vars) = true from decide_eq_true hb)
      (And.intro (show decide (g.w2 < -1) = false from decide_eq_false ha)
      (And.intro (show decide (g.w1 ≥ vars) = false from nge h1)
      (And.intro (show decide (g.w1 < -1) = false from nlt h1)
      (And.intro (show decide (g.w0 ≥ vars) = false from nge h0)
      (And.intro (show decide (g.w0 < -1) = false from nlt h0)
      (And.intro (gate_at gs i g hg)
      (And.intro (show (i : Int) = ((i : Nat) : Int) ∧ i < gs.length from ⟨rfl, hi⟩)
      (And.intro (show decide ((i : Int) < ((gs.length : Nat) : Int)) = true from decide_eq_true (by omega)) trivial)))))))))
theorem r8_ok (gs : List GT) (pub vars : Int) (hm : gs.length ≤ 9223372036854775807) (i : Nat) (g : GT) (hg : gs[i]? = some g) (h0 : ¬ bw vars g.w0) (h1 : ¬ bw vars g.w1) (h2 : ¬ bw vars g.w2) : Sound Try.prog 0 false (loopB Try.f28 0) (r8I gs pub vars (i : Int)).aa .normal (r8I gs pub vars ((i + 1 : Nat) : Int)).aa := by
  have hi := glt hg
  have hs := roundK_sound (P := Try.prog) (X := rulesY _) (env := []) trivial (n := 0) (os := oL [(10, wT), (11, rO 14 i), (12, { ch := 0, hi := fun _ => 0, ru := 8, cs := fun _ => gP g }), (22, wF), (27, wF), (35, wF), (40, wF), (48, wF), (53, wF)]) (fb := 0) (rd := false) (c := (loopB Try.f28 0)) (k := 10) (I := r8I gs pub vars (i : Int)) (sk := [1, 8, 9, 10]) (hk := [0, 4]) (lk := []) (ex := .normal)
    (L := r8I gs pub vars (IntKind.i64.wrap ((i : Int) + 1))) (by kernel_rfl)
    (And.intro (show decide (g.w2 ≥ vars) = false from nge h2)
      (And.intro (show decide (g.w2 < -1) = false from nlt h2)
      (And.intro (show decide (g.w1 ≥ vars) = false from nge h1)
      (And.intro (show decide (g.w1 < -1) = false from nlt h1)
      (And.intro (show decide (g.w0 ≥ vars) = false from nge h0)
      (And.intro (show decide (g.w0 < -1) = false from nlt h0)
      (And.intro (gate_at gs i g hg)
      (And.intro (show (i : Int) = ((i : Nat) : Int) ∧ i < gs.length from ⟨rfl, hi⟩)
      (And.intro (show decide ((i : Int) < ((gs.length : Nat) : Int)) = true from decide_eq_true (by omega)) trivial)))))))))
  rw [show IntKind.i64.wrap ((i : Int) + 1) = ((i + 1 : Nat) : Int) by rw [wrap_i64]; omega] at hs
  exact hs
theorem r8_end (gs : List GT) (pub vars : Int) : Sound Try.prog 0 false (loopB Try.f28 0) (r8I gs pub vars ((gs.length : Nat) : Int)).aa (.exit 0) (r8E gs pub vars).aa :=
  roundK_sound (P := Try.prog) (X := rulesY _) (env := []) trivial (n := 0) (os := oL [(10, wF)]) (fb := 0) (rd := false) (c := (loopB Try.f28 0)) (k := 10) (I := r8I gs pub vars ((gs.length : Nat) : Int)) (sk := [1]) (hk := [0, 4]) (lk := []) (ex := .exit 0)
    (L := r8E gs pub vars) (by kernel_rfl) (And.intro (show decide (((gs.length : Nat) : Int) < ((gs.length : Nat) : Int)) = false from decide_eq_false (by omega)) trivial)
theorem r8_bad (gs : List GT) (pub vars : Int) (i : Nat) (g : GT) (hg : gs[i]? = some g) (hb : ¬ okW vars g) : Sound Try.prog 0 false (loopB Try.f28 0) (r8I gs pub vars (i : Int)).aa .ret (r8F gs pub vars).aa := by
  by_cases h0 : bw vars g.w0
  · by_cases ha : g.w0 < -1
    · exact r8_l0 gs pub vars i g hg ha
    · exact r8_h0 gs pub vars i g hg ha (h0.resolve_left ha)
  by_cases h1 : bw vars g.w1
  · by_cases ha : g.w1 < -1
    · exact r8_l1 gs pub vars i g hg h0 ha
    · exact r8_h1 gs pub vars i g hg h0 ha (h1.resolve_left ha)
  by_cases h2 : bw vars g.w2
  · by_cases ha : g.w2 < -1
    · exact r8_l2 gs pub vars i g hg h0 h1 ha
    · exact r8_h2 gs pub vars i g hg h0 h1 ha (h2.resolve_left ha)
  exact absurd ⟨h0, h1, h2⟩ hb
theorem r8_all (gs : List GT) (pub vars : Int) (hm : gs.length ≤ 9223372036854775807) (hc : ∀ g, g ∈ gs → okW vars g) : Sound Try.prog 0 false (.loop (loopB Try.f28 0)) (r8I gs pub vars 0).aa (.exit 0) (r8E gs pub vars).aa := by
  refine loop_ok (m := fun y : { i : Nat // i ≤ gs.length } => gs.length - y.val) (fun y => r8I gs pub vars (y.val : Int)) (by simp) (fun y => ?_) ⟨0, by omega⟩
  obtain ⟨i, hi⟩ := y
  by_cases e : i < gs.length
  · obtain ⟨g, hg⟩ := gof e
    obtain ⟨h0, h1, h2⟩ := hc g (gmem hg)
    exact .inl ⟨⟨i + 1, e⟩, by show gs.length - (i + 1) < gs.length - i; omega, r8_ok gs pub vars hm i g hg h0 h1 h2⟩
  · have e : i = gs.length := by omega
    subst e
    exact .inr (r8_end gs pub vars)
theorem r8_no (gs : List GT) (pub vars : Int) (hm : gs.length ≤ 9223372036854775807) (j : Nat) (x : GT) (hj : gs[j]? = some x) (hx : ¬ okW vars x) (hp : ∀ (i : Nat) (y : GT), i < j → gs[i]? = some y → okW vars y) : Sound Try.prog 0 false (.loop (loopB Try.f28 0)) (r8I gs pub vars 0).aa .ret (r8F gs pub vars).aa := by
  refine loop_ok (m := fun y : { i : Nat // i ≤ j } => j - y.val) (fun y => r8I gs pub vars (y.val : Int)) (by simp) (fun y => ?_) ⟨0, by omega⟩
  obtain ⟨i, hi⟩ := y
  by_cases e : i < j
  · obtain ⟨g, hg⟩ := gof (show i < gs.length by have := glt hj; omega)
    obtain ⟨h0, h1, h2⟩ := hp i g e hg
    exact .inl ⟨⟨i + 1, by omega⟩, by show j - (i + 1) < j - i; omega, r8_ok gs pub vars hm i g hg h0 h1 h2⟩
  · have e : i = j := by omega
    subst e
    exact .inr (r8_bad gs pub vars i x hj hx)
/-! circuit.Right -/
def ccI (gs : List GT) (pub vars z : Int) : LState := { n := 19, sl := [(0, .sz 0 gs.length), (1, .clo 57 [] [.p 4 0]), (7, .v (.int .i64 ((gs.length : Nat) : Int))), (8, .v (.int .i64 z))], hp := [(0, .rz [.l (gsC gs)]), (4, .own [.sz 0 gs.length, .c (.int .i64 pub), .c (.int .i64 vars)] 24)] }
def ccE (gs : List GT) (pub vars : Int) : LState := { n := 19, sl := [], hp := [(0, .rz [.l (gsC gs)]), (4, .own [.sz 0 gs.length, .c (.int .i64 pub), .c (.int .i64 vars)] 24)] }
def ccF (gs : List GT) (pub vars z : Int) : LState := { n := 19, sl := [(4, .v (.int .i64 z))], hp := [(0, .rz [.l (gsC gs)]), (4, .own [.sz 0 gs.length, .c (.int .i64 pub), .c (.int .i64 vars)] 24)] }
theorem cc_l0 (gs : List GT) (pub vars : Int) (i : Nat) (g : GT) (hg : gs[i]? = some g) (hb : g.w0 < -1) : Sound Try.prog 36 false (loopB Try.f67 0) (ccI gs pub vars (i : Int)).aa .ret (ccF gs pub vars (i : Int)).aa := by
  have hi := glt hg
  exact roundK_sound (P := Try.prog) (X := rulesY _) (env := []) trivial (n := 4) (os := oL [(40, wT), (46, rO 14 i), (47, { ch := 0, hi := fun _ => 0, ru := 8, cs := fun _ => gP g }), (74, wT)]) (fb := 36) (rd := false) (c := (loopB Try.f67 0)) (k := 40) (I := ccI gs pub vars (i : Int)) (sk := [4]) (hk := [0, 4]) (lk := []) (ex := .ret)
    (L := ccF gs pub vars (i : Int)) (by kernel_rfl)
    (And.intro (show decide (g.w0 < -1) = true from decide_eq_true hb)
      (And.intro (gate_at gs i g hg)
      (And.intro (show (i : Int) = ((i : Nat) : Int) ∧ i < gs.length from ⟨rfl, hi⟩)
      (And.intro (show decide ((i : Int) < ((gs.length : Nat) : Int)) = true from decide_eq_true (by omega)) trivial))))
theorem cc_h0 (gs : List GT) (pub vars : Int) (i : Nat) (g : GT) (hg : gs[i]? = some g) (ha : ¬ g.w0 < -1) (hb : g.w0 ≥ vars) : Sound Try.prog 36 false (loopB Try.f67 0) (ccI gs pub vars (i : Int)).aa .ret (ccF gs pub vars (i : Int)).aa := by
  have hi := glt hg
  exact roundK_sound (P := Try.prog) (X := rulesY _) (env := []) trivial (n := 4) (os := oL [(40, wT), (46, rO 14 i), (47, { ch := 0, hi := fun _ => 0, ru := 8, cs := fun _ => gP g }), (74, wF), (79, wT)]) (fb := 36) (rd := false) (c := (loopB Try.f67 0)) (k := 40) (I := ccI gs pub vars (i : Int)) (sk := [4]) (hk := [0, 4]) (lk := []) (ex := .ret)
    (L := ccF gs pub vars (i : Int)) (by kernel_rfl)
    (And.intro (show decide (g.w0 ≥ vars) = true from decide_eq_true hb)
      (And.intro (show decide (g.w0 < -1) = false from decide_eq_false ha)
      (And.intro (gate_at gs i g hg)
      (And.intro (show (i : Int) = ((i : Nat) : Int) ∧ i < gs.length from ⟨rfl, hi⟩)
      (And.intro (show decide ((i : Int) < ((gs.length : Nat) : Int)) = true from decide_eq_true (by omega)) trivial)))))
theorem cc_l1 (gs : List GT) (pub vars : Int) (i : Nat) (g : GT) (hg : gs[i]? = some g) (h0 : ¬ bw vars g.w0) (hb : g.w1 < -1) : Sound Try.prog 36 false (loopB Try.f67 0) (ccI gs pub vars (i : Int)).aa .ret (ccF gs pub vars (i : Int)).aa := by
  have hi := glt hg
  exact roundK_sound (P := Try.prog) (X := rulesY _) (env := []) trivial (n := 4) (os := oL [(40, wT), (46, rO 14 i), (47, { ch := 0, hi := fun _ => 0, ru := 8, cs := fun _ => gP g }), (74, wF), (79, wF), (95, wT)]) (fb := 36) (rd := false) (c := (loopB Try.f67 0)) (k := 40) (I := ccI gs pub vars (i : Int)) (sk := [4]) (hk := [0, 4]) (lk := []) (ex := .ret)
    (L := ccF gs pub vars (i : Int)) (by kernel_rfl)
    (And.intro (show decide (g.w1 < -1) = true from decide_eq_true hb)
      (And.intro (show decide (g.w0 ≥ vars) = false from nge h0)
      (And.intro (show decide (g.w0 < -1) = false from nlt h0)
      (And.intro (gate_at gs i g hg)
      (And.intro (show (i : Int) = ((i : Nat) : Int) ∧ i < gs.length from ⟨rfl, hi⟩)
      (And.intro (show decide ((i : Int) < ((gs.length : Nat) : Int)) = true from decide_eq_true (by omega)) trivial))))))
theorem cc_h1 (gs : List GT) (pub vars : Int) (i : Nat) (g : GT) (hg : gs[i]? = some g) (h0 : ¬ bw vars g.w0) (ha : ¬ g.w1 < -1) (hb : g.w1 ≥ vars) : Sound Try.prog 36 false (loopB Try.f67 0) (ccI gs pub vars (i : Int)).aa .ret (ccF gs pub vars (i : Int)).aa := by
  have hi := glt hg
  exact roundK_sound (P := Try.prog) (X := rulesY _) (env := []) trivial (n := 4) (os := oL [(40, wT), (46, rO 14 i), (47, { ch := 0, hi := fun _ => 0, ru := 8, cs := fun _ => gP g }), (74, wF), (79, wF), (95, wF), (100, wT)]) (fb := 36) (rd := false) (c := (loopB Try.f67 0)) (k := 40) (I := ccI gs pub vars (i : Int)) (sk := [4]) (hk := [0, 4]) (lk := []) (ex := .ret)
    (L := ccF gs pub vars (i : Int)) (by kernel_rfl)
    (And.intro (show decide (g.w1 ≥ vars) = true from decide_eq_true hb)
      (And.intro (show decide (g.w1 < -1) = false from decide_eq_false ha)
      (And.intro (show decide (g.w0 ≥ vars) = false from nge h0)
      (And.intro (show decide (g.w0 < -1) = false from nlt h0)
      (And.intro (gate_at gs i g hg)
      (And.intro (show (i : Int) = ((i : Nat) : Int) ∧ i < gs.length from ⟨rfl, hi⟩)
      (And.intro (show decide ((i : Int) < ((gs.length : Nat) : Int)) = true from decide_eq_true (by omega)) trivial)))))))
theorem cc_l2 (gs : List GT) (pub vars : Int) (i : Nat) (g : GT) (hg : gs[i]? = some g) (h0 : ¬ bw vars g.w0) (h1 : ¬ bw vars g.w1) (hb : g.w2 < -1) : Sound Try.prog 36 false (loopB Try.f67 0) (ccI gs pub vars (i : Int)).aa .ret (ccF gs pub vars (i : Int)).aa := by
  have hi := glt hg
  exact roundK_sound (P := Try.prog) (X := rulesY _) (env := []) trivial (n := 4) (os := oL [(40, wT), (46, rO 14 i), (47, { ch := 0, hi := fun _ => 0, ru := 8, cs := fun _ => gP g }), (74, wF), (79, wF), (95, wF), (100, wF), (116, wT)]) (fb := 36) (rd := false) (c := (loopB Try.f67 0)) (k := 40) (I := ccI gs pub vars (i : Int)) (sk := [4]) (hk := [0, 4]) (lk := []) (ex := .ret)
    (L := ccF gs pub vars (i : Int)) (by kernel_rfl)
    (And.intro (show decide (g.w2 < -1) = true from decide_eq_true hb)
      (And.intro (show decide (g.w1 ≥ vars) = false from nge h1)
      (And.intro (show decide (g.w1 < -1) = false from nlt h1)
      (And.intro (show decide (g.w0 ≥ vars) = false from nge h0)
      (And.intro (show decide (g.w0 < -1) = false from nlt h0)
      (And.intro (gate_at gs i g hg)
      (And.intro (show (i : Int) = ((i : Nat) : Int) ∧ i < gs.length from ⟨rfl, hi⟩)
      (And.intro (show decide ((i : Int) < ((gs.length : Nat) : Int)) = true from decide_eq_true (by omega)) trivial))))))))
theorem cc_h2 (gs : List GT) (pub vars : Int) (i : Nat) (g : GT) (hg : gs[i]? = some g) (h0 : ¬ bw vars g.w0) (h1 : ¬ bw vars g.w1) (ha : ¬ g.w2 < -1) (hb : g.w2 ≥ vars) : Sound Try.prog 36 false (loopB Try.f67 0) (ccI gs pub vars (i : Int)).aa .ret (ccF gs pub vars (i : Int)).aa := by
  have hi := glt hg
  exact roundK_sound (P := Try.prog) (X := rulesY _) (env := []) trivial (n := 4) (os := oL [(40, wT), (46, rO 14 i), (47, { ch := 0, hi := fun _ => 0, ru := 8, cs := fun _ => gP g }), (74, wF), (79, wF), (95, wF), (100, wF), (116, wF), (121, wT)]) (fb := 36) (rd := false) (c := (loopB Try.f67 0)) (k := 40) (I := ccI gs pub vars (i : Int)) (sk := [4]) (hk := [0, 4]) (lk := []) (ex := .ret)
    (L := ccF gs pub vars (i : Int)) (by kernel_rfl)
    (And.intro (show decide (g.w2 ≥ vars) = true from decide_eq_true hb)
      (And.intro (show decide (g.w2 < -1) = false from decide_eq_false ha)
      (And.intro (show decide (g.w1 ≥ vars) = false from nge h1)
      (And.intro (show decide (g.w1 < -1) = false from nlt h1)
      (And.intro (show decide (g.w0 ≥ vars) = false from nge h0)
      (And.intro (show decide (g.w0 < -1) = false from nlt h0)
      (And.intro (gate_at gs i g hg)
      (And.intro (show (i : Int) = ((i : Nat) : Int) ∧ i < gs.length from ⟨rfl, hi⟩)
      (And.intro (show decide ((i : Int) < ((gs.length : Nat) : Int)) = true from decide_eq_true (by omega)) trivial)))))))))
theorem cc_ok (gs : List GT) (pub vars : Int) (hm : gs.length ≤ 9223372036854775807) (i : Nat) (g : GT) (hg : gs[i]? = some g) (h0 : ¬ bw vars g.w0) (h1 : ¬ bw vars g.w1) (h2 : ¬ bw vars g.w2) : Sound Try.prog 36 false (loopB Try.f67 0) (ccI gs pub vars (i : Int)).aa .normal (ccI gs pub vars ((i + 1 : Nat) : Int)).aa := by
  have hi := glt hg
  have hs := roundK_sound (P := Try.prog) (X := rulesY _) (env := []) trivial (n := 4) (os := oL [(40, wT), (46, rO 14 i), (47, { ch := 0, hi := fun _ => 0, ru := 8, cs := fun _ => gP g }), (74, wF), (79, wF), (95, wF), (100, wF), (116, wF), (121, wF)]) (fb := 36) (rd := false) (c := (loopB Try.f67 0)) (k := 40) (I := ccI gs pub vars (i : Int)) (sk := [0, 1, 7, 8]) (hk := [0, 4]) (lk := []) (ex := .normal)
    (L := ccI gs pub vars (IntKind.i64.wrap ((i : Int) + 1))) (by kernel_rfl)
    (And.intro (show decide (g.w2 ≥ vars) = false from nge h2)
      (And.intro (show decide (g.w2 < -1) = false from nlt h2)
      (And.intro (show decide (g.w1 ≥ vars) = false from nge h1)
      (And.intro (show decide (g.w1 < -1) = false from nlt h1)
      (And.intro (show decide (g.w0 ≥ vars) = false from nge h0)
      (And.intro (show decide (g.w0 < -1) = false from nlt h0)
      (And.intro (gate_at gs i g hg)
      (And.intro (show (i : Int) = ((i : Nat) : Int) ∧ i < gs.length from ⟨rfl, hi⟩)
      (And.intro (show decide ((i : Int) < ((gs.length : Nat) : Int)) = true from decide_eq_true (by omega)) trivial)))))))))
  rw [show IntKind.i64.wrap ((i : Int) + 1) = ((i + 1 : Nat) : Int) by rw [wrap_i64]; omega] at hs
  exact hs
theorem cc_end (gs : List GT) (pub vars : Int) : Sound Try.prog 36 false (loopB Try.f67 0) (ccI gs pub vars ((gs.length : Nat) : Int)).aa (.exit 0) (ccE gs pub vars).aa :=
  roundK_sound (P := Try.prog) (X := rulesY _) (env := []) trivial (n := 0) (os := oL [(40, wF)]) (fb := 36) (rd := false) (c := (loopB Try.f67 0)) (k := 40) (I := ccI gs pub vars ((gs.length : Nat) : Int)) (sk := []) (hk := [0, 4]) (lk := []) (ex := .exit 0)
    (L := ccE gs pub vars) (by kernel_rfl) (And.intro (show decide (((gs.length : Nat) : Int) < ((gs.length : Nat) : Int)) = false from decide_eq_false (by omega)) trivial)
theorem cc_bad (gs : List GT) (pub vars : Int) (i : Nat) (g : GT) (hg : gs[i]? = some g) (hb : ¬ okW vars g) : Sound Try.prog 36 false (loopB Try.f67 0) (ccI gs pub vars (i : Int)).aa .ret (ccF gs pub vars (i : Int)).aa := by
  by_cases h0 : bw vars g.w0
  · by_cases ha : g.w0 < -1
    · exact cc_l0 gs pub vars i g hg ha
    · exact cc_h0 gs pub vars i g hg ha (h0.resolve_left ha)
  by_cases h1 : bw vars g.w1
  · by_cases ha : g.w1 < -1
    · exact cc_l1 gs pub vars i g hg h0 ha
    · exact cc_h1 gs pub vars i g hg h0 ha (h1.resolve_left ha)
  by_cases h2 : bw vars g.w2
  · by_cases ha : g.w2 < -1
    · exact cc_l2 gs pub vars i g hg h0 h1 ha
    · exact cc_h2 gs pub vars i g hg h0 h1 ha (h2.resolve_left ha)
  exact absurd ⟨h0, h1, h2⟩ hb
theorem cc_all (gs : List GT) (pub vars : Int) (hm : gs.length ≤ 9223372036854775807) (hc : ∀ g, g ∈ gs → okW vars g) : Sound Try.prog 36 false (.loop (loopB Try.f67 0)) (ccI gs pub vars 0).aa (.exit 0) (ccE gs pub vars).aa := by
  refine loop_ok (m := fun y : { i : Nat // i ≤ gs.length } => gs.length - y.val) (fun y => ccI gs pub vars (y.val : Int)) (by simp) (fun y => ?_) ⟨0, by omega⟩
  obtain ⟨i, hi⟩ := y
  by_cases e : i < gs.length
  · obtain ⟨g, hg⟩ := gof e
    obtain ⟨h0, h1, h2⟩ := hc g (gmem hg)
    exact .inl ⟨⟨i + 1, e⟩, by show gs.length - (i + 1) < gs.length - i; omega, cc_ok gs pub vars hm i g hg h0 h1 h2⟩
  · have e : i = gs.length := by omega
    subst e
    exact .inr (cc_end gs pub vars)
theorem cc_no (gs : List GT) (pub vars : Int) (hm : gs.length ≤ 9223372036854775807) (j : Nat) (x : GT) (hj : gs[j]? = some x) (hx : ¬ okW vars x) (hp : ∀ (i : Nat) (y : GT), i < j → gs[i]? = some y → okW vars y) : Sound Try.prog 36 false (.loop (loopB Try.f67 0)) (ccI gs pub vars 0).aa .ret (ccF gs pub vars (j : Int)).aa := by
  refine loop_ok (m := fun y : { i : Nat // i ≤ j } => j - y.val) (fun y => ccI gs pub vars (y.val : Int)) (by simp) (fun y => ?_) ⟨0, by omega⟩
  obtain ⟨i, hi⟩ := y
  by_cases e : i < j
  · obtain ⟨g, hg⟩ := gof (show i < gs.length by have := glt hj; omega)
    obtain ⟨h0, h1, h2⟩ := hp i g e hg
    exact .inl ⟨⟨i + 1, by omega⟩, by show j - (i + 1) < j - i; omega, cc_ok gs pub vars hm i g hg h0 h1 h2⟩
  · have e : i = j := by omega
    subst e
    exact .inr (cc_bad gs pub vars i x hj hx)
theorem r18_a (gs : List GT) (pub vars : Int) (hm : gs.length ≤ 9223372036854775807) (hc : ∀ g, g ∈ gs → okW vars g) (h1 : ¬ gs.length ≤ 4096) : Gives Try.prog 28 [.ags [.z [.l (gsC gs)] gs.length, .c (.c (.int .i64 pub)), .c (.c (.int .i64 vars))]] (.v (.bool false)) :=
  fn_gives_at (P := Try.prog) (X := rulesY _) (env := []) trivial Try.func28 0 (oL [(10, lpO { I := r8I gs pub vars 0, ex := .exit 0, E := r8E gs pub vars, fr := 11 }), (14, wF)]) (by kernel_rfl) ⟨_, rfl⟩
    (And.intro (show decide (((gs.length : Nat) : Int) ≤ 4096) = false from decide_eq_false (by omega))
      (And.intro (show some (r8I gs pub vars 0) = some (r8I gs pub vars 0) from rfl)
      (And.intro (r8_all gs pub vars hm hc) trivial)))
theorem r18_b (gs : List GT) (pub vars : Int) (hm : gs.length ≤ 9223372036854775807) (hc : ∀ g, g ∈ gs → okW vars g) (h1 : gs.length ≤ 4096) (h2 : ¬ 0 ≤ pub) : Gives Try.prog 28 [.ags [.z [.l (gsC gs)] gs.length, .c (.c (.int .i64 pub)), .c (.c (.int .i64 vars))]] (.v (.bool false)) :=
  fn_gives_at (P := Try.prog) (X := rulesY _) (env := []) trivial Try.func28 0 (oL [(10, lpO { I := r8I gs pub vars 0, ex := .exit 0, E := r8E gs pub vars, fr := 11 }), (14, wT), (18, wF)]) (by kernel_rfl) ⟨_, rfl⟩
    (And.intro (show decide (pub ≥ 0) = false from decide_eq_false (by omega))
      (And.intro (show decide (((gs.length : Nat) : Int) ≤ 4096) = true from decide_eq_true (by omega))
      (And.intro (show some (r8I gs pub vars 0) = some (r8I gs pub vars 0) from rfl)
      (And.intro (r8_all gs pub vars hm hc) trivial))))
theorem r18_c (gs : List GT) (pub vars : Int) (hm : gs.length ≤ 9223372036854775807) (hc : ∀ g, g ∈ gs → okW vars g) (h1 : gs.length ≤ 4096) (h2 : 0 ≤ pub) (h3 : ¬ pub ≤ gs.length) : Gives Try.prog 28 [.ags [.z [.l (gsC gs)] gs.length, .c (.c (.int .i64 pub)), .c (.c (.int .i64 vars))]] (.v (.bool false)) :=
  fn_gives_at (P := Try.prog) (X := rulesY _) (env := []) trivial Try.func28 0 (oL [(10, lpO { I := r8I gs pub vars 0, ex := .exit 0, E := r8E gs pub vars, fr := 11 }), (14, wT), (18, wT), (26, wF)]) (by kernel_rfl) ⟨_, rfl⟩
    (And.intro (show decide (pub ≤ ((gs.length : Nat) : Int)) = false from decide_eq_false h3)
      (And.intro (show decide (pub ≥ 0) = true from decide_eq_true h2)
      (And.intro (show decide (((gs.length : Nat) : Int) ≤ 4096) = true from decide_eq_true (by omega))
      (And.intro (show some (r8I gs pub vars 0) = some (r8I gs pub vars 0) from rfl)
      (And.intro (r8_all gs pub vars hm hc) trivial)))))
theorem r18_d (gs : List GT) (pub vars : Int) (hm : gs.length ≤ 9223372036854775807) (hc : ∀ g, g ∈ gs → okW vars g) (h1 : gs.length ≤ 4096) (h2 : 0 ≤ pub) (h3 : pub ≤ gs.length) (h4 : ¬ 0 ≤ vars) : Gives Try.prog 28 [.ags [.z [.l (gsC gs)] gs.length, .c (.c (.int .i64 pub)), .c (.c (.int .i64 vars))]] (.v (.bool false)) :=
  fn_gives_at (P := Try.prog) (X := rulesY _) (env := []) trivial Try.func28 0 (oL [(10, lpO { I := r8I gs pub vars 0, ex := .exit 0, E := r8E gs pub vars, fr := 11 }), (14, wT), (18, wT), (26, wT), (31, wF)]) (by kernel_rfl) ⟨_, rfl⟩
    (And.intro (show decide (vars ≥ 0) = false from decide_eq_false (by omega))
      (And.intro (show decide (pub ≤ ((gs.length : Nat) : Int)) = true from decide_eq_true h3)
      (And.intro (show decide (pub ≥ 0) = true from decide_eq_true h2)
      (And.intro (show decide (((gs.length : Nat) : Int) ≤ 4096) = true from decide_eq_true (by omega))
      (And.intro (show some (r8I gs pub vars 0) = some (r8I gs pub vars 0) from rfl)
      (And.intro (r8_all gs pub vars hm hc) trivial))))))
theorem r18_e (gs : List GT) (pub vars : Int) (hm : gs.length ≤ 9223372036854775807) (hc : ∀ g, g ∈ gs → okW vars g) (h1 : gs.length ≤ 4096) (h2 : 0 ≤ pub) (h3 : pub ≤ gs.length) (h4 : 0 ≤ vars) : Gives Try.prog 28 [.ags [.z [.l (gsC gs)] gs.length, .c (.c (.int .i64 pub)), .c (.c (.int .i64 vars))]] (.v (.bool true)) :=
  fn_gives_at (P := Try.prog) (X := rulesY _) (env := []) trivial Try.func28 0 (oL [(10, lpO { I := r8I gs pub vars 0, ex := .exit 0, E := r8E gs pub vars, fr := 11 }), (14, wT), (18, wT), (26, wT), (31, wT)]) (by kernel_rfl) ⟨_, rfl⟩
    (And.intro (show decide (vars ≥ 0) = true from decide_eq_true h4)
      (And.intro (show decide (pub ≤ ((gs.length : Nat) : Int)) = true from decide_eq_true h3)
      (And.intro (show decide (pub ≥ 0) = true from decide_eq_true h2)
      (And.intro (show decide (((gs.length : Nat) : Int) ≤ 4096) = true from decide_eq_true (by omega))
      (And.intro (show some (r8I gs pub vars 0) = some (r8I gs pub vars 0) from rfl)
      (And.intro (r8_all gs pub vars hm hc) trivial))))))
theorem r18_f (gs : List GT) (pub vars : Int) (hm : gs.length ≤ 9223372036854775807) (j : Nat) (x : GT) (hj : gs[j]? = some x) (hx : ¬ okW vars x) (hp : ∀ (i : Nat) (y : GT), i < j → gs[i]? = some y → okW vars y) : Gives Try.prog 28 [.ags [.z [.l (gsC gs)] gs.length, .c (.c (.int .i64 pub)), .c (.c (.int .i64 vars))]] (.v (.bool false)) :=
  fn_gives_at (P := Try.prog) (X := rulesY _) (env := []) trivial Try.func28 0 (oL [(10, lpO { I := r8I gs pub vars 0, ex := .ret, E := r8F gs pub vars, fr := 11 })]) (by kernel_rfl) ⟨_, rfl⟩
    (And.intro (show some (r8I gs pub vars 0) = some (r8I gs pub vars 0) from rfl)
      (And.intro (r8_no gs pub vars hm j x hj hx hp) trivial))
theorem r18_yes (gs : List GT) (pub vars : Int) (hm : gs.length ≤ 9223372036854775807) (h : rightC gs pub vars) : Gives Try.prog 28 [.ags [.z [.l (gsC gs)] gs.length, .c (.c (.int .i64 pub)), .c (.c (.int .i64 vars))]] (.v (.bool true)) :=
  r18_e gs pub vars hm h.2.2.2.2 h.1 h.2.1 h.2.2.1 h.2.2.2.1
theorem r18_no (gs : List GT) (pub vars : Int) (hm : gs.length ≤ 9223372036854775807) (h : ¬ rightC gs pub vars) : Gives Try.prog 28 [.ags [.z [.l (gsC gs)] gs.length, .c (.c (.int .i64 pub)), .c (.c (.int .i64 vars))]] (.v (.bool false)) := by
  rcases gate_bad vars gs with hc | ⟨j, x, h1, h2, h3⟩
  · by_cases h1 : gs.length ≤ 4096
    · by_cases h2 : 0 ≤ pub
      · by_cases h3 : pub ≤ gs.length
        · by_cases h4 : 0 ≤ vars
          · exact absurd ⟨h1, h2, h3, h4, hc⟩ h
          · exact r18_d gs pub vars hm hc h1 h2 h3 h4
        · exact r18_c gs pub vars hm hc h1 h2 h3
      · exact r18_b gs pub vars hm hc h1 h2
    · exact r18_a gs pub vars hm hc h1
  · exact r18_f gs pub vars hm j x h1 h2 h3
theorem cr_a (gs : List GT) (pub vars : Int) (h1 : ¬ gs.length ≤ 4096) : Gives Try.prog 43 [.ags [.z [.l (gsC gs)] gs.length, .c (.c (.int .i64 pub)), .c (.c (.int .i64 vars))]] (.v (.bool false)) :=
  fn_gives_at (P := Try.prog) (X := rulesY _) (env := []) trivial Try.func43 5 (oL [(9, wT)]) (by kernel_rfl) ⟨_, rfl⟩
    (And.intro (show decide (((gs.length : Nat) : Int) > 4096) = true from decide_eq_true (by omega)) trivial)
theorem cr_b (gs : List GT) (pub vars : Int) (h1 : gs.length ≤ 4096) (h2 : ¬ 0 ≤ pub) : Gives Try.prog 43 [.ags [.z [.l (gsC gs)] gs.length, .c (.c (.int .i64 pub)), .c (.c (.int .i64 vars))]] (.v (.bool false)) :=
  fn_gives_at (P := Try.prog) (X := rulesY _) (env := []) trivial Try.func43 5 (oL [(9, wF), (13, wT)]) (by kernel_rfl) ⟨_, rfl⟩
    (And.intro (show decide (pub < 0) = true from decide_eq_true (by omega))
      (And.intro (show decide (((gs.length : Nat) : Int) > 4096) = false from decide_eq_false (by omega)) trivial))
theorem cr_c (gs : List GT) (pub vars : Int) (h1 : gs.length ≤ 4096) (h2 : 0 ≤ pub) (h3 : ¬ pub ≤ gs.length) : Gives Try.prog 43 [.ags [.z [.l (gsC gs)] gs.length, .c (.c (.int .i64 pub)), .c (.c (.int .i64 vars))]] (.v (.bool false)) :=
  fn_gives_at (P := Try.prog) (X := rulesY _) (env := []) trivial Try.func43 5 (oL [(9, wF), (13, wF), (21, wT)]) (by kernel_rfl) ⟨_, rfl⟩
    (And.intro (show decide (pub > ((gs.length : Nat) : Int)) = true from decide_eq_true (by omega))
      (And.intro (show decide (pub < 0) = false from decide_eq_false (by omega))
      (And.intro (show decide (((gs.length : Nat) : Int) > 4096) = false from decide_eq_false (by omega)) trivial)))
theorem cr_d (gs : List GT) (pub vars : Int) (h1 : gs.length ≤ 4096) (h2 : 0 ≤ pub) (h3 : pub ≤ gs.length) (h4 : ¬ 0 ≤ vars) : Gives Try.prog 43 [.ags [.z [.l (gsC gs)] gs.length, .c (.c (.int .i64 pub)), .c (.c (.int .i64 vars))]] (.v (.bool false)) :=
  fn_gives_at (P := Try.prog) (X := rulesY _) (env := []) trivial Try.func43 5 (oL [(9, wF), (13, wF), (21, wF), (26, wT)]) (by kernel_rfl) ⟨_, rfl⟩
    (And.intro (show decide (vars < 0) = true from decide_eq_true (by omega))
      (And.intro (show decide (pub > ((gs.length : Nat) : Int)) = false from decide_eq_false (by omega))
      (And.intro (show decide (pub < 0) = false from decide_eq_false (by omega))
      (And.intro (show decide (((gs.length : Nat) : Int) > 4096) = false from decide_eq_false (by omega)) trivial))))
theorem cr_e (gs : List GT) (pub vars : Int) (hm : gs.length ≤ 9223372036854775807) (hc : ∀ g, g ∈ gs → okW vars g) (h1 : gs.length ≤ 4096) (h2 : 0 ≤ pub) (h3 : pub ≤ gs.length) (h4 : 0 ≤ vars) : Gives Try.prog 43 [.ags [.z [.l (gsC gs)] gs.length, .c (.c (.int .i64 pub)), .c (.c (.int .i64 vars))]] (.v (.bool true)) :=
  fn_gives_at (P := Try.prog) (X := rulesY _) (env := []) trivial Try.func43 5 (oL [(9, wF), (13, wF), (21, wF), (26, wF), (40, lpO { I := ccI gs pub vars 0, ex := .exit 0, E := ccE gs pub vars, fr := 41 })]) (by kernel_rfl) ⟨_, rfl⟩
    (And.intro (show some (ccI gs pub vars 0) = some (ccI gs pub vars 0) from rfl)
      (And.intro (cc_all gs pub vars hm hc)
      (And.intro (show decide (vars < 0) = false from decide_eq_false (by omega))
      (And.intro (show decide (pub > ((gs.length : Nat) : Int)) = false from decide_eq_false (by omega))
      (And.intro (show decide (pub < 0) = false from decide_eq_false (by omega))
      (And.intro (show decide (((gs.length : Nat) : Int) > 4096) = false from decide_eq_false (by omega)) trivial))))))
theorem cr_f (gs : List GT) (pub vars : Int) (hm : gs.length ≤ 9223372036854775807) (h1 : gs.length ≤ 4096) (h2 : 0 ≤ pub) (h3 : pub ≤ gs.length) (h4 : 0 ≤ vars) (j : Nat) (x : GT) (hj : gs[j]? = some x) (hx : ¬ okW vars x) (hp : ∀ (i : Nat) (y : GT), i < j → gs[i]? = some y → okW vars y) : Gives Try.prog 43 [.ags [.z [.l (gsC gs)] gs.length, .c (.c (.int .i64 pub)), .c (.c (.int .i64 vars))]] (.v (.bool false)) :=
  fn_gives_at (P := Try.prog) (X := rulesY _) (env := []) trivial Try.func43 5 (oL [(9, wF), (13, wF), (21, wF), (26, wF), (40, lpO { I := ccI gs pub vars 0, ex := .ret, E := ccF gs pub vars (j : Int), fr := 41 }), (41, wT)]) (by kernel_rfl) ⟨_, rfl⟩
    (And.intro (show decide ((j : Int) ≥ 0) = true from decide_eq_true (by omega))
      (And.intro (show some (ccI gs pub vars 0) = some (ccI gs pub vars 0) from rfl)
      (And.intro (cc_no gs pub vars hm j x hj hx hp)
      (And.intro (show decide (vars < 0) = false from decide_eq_false (by omega))
      (And.intro (show decide (pub > ((gs.length : Nat) : Int)) = false from decide_eq_false (by omega))
      (And.intro (show decide (pub < 0) = false from decide_eq_false (by omega))
      (And.intro (show decide (((gs.length : Nat) : Int) > 4096) = false from decide_eq_false (by omega)) trivial)))))))
theorem cr_yes (gs : List GT) (pub vars : Int) (h : rightC gs pub vars) : Gives Try.prog 43 [.ags [.z [.l (gsC gs)] gs.length, .c (.c (.int .i64 pub)), .c (.c (.int .i64 vars))]] (.v (.bool true)) :=
  cr_e gs pub vars (by have := h.1; omega) h.2.2.2.2 h.1 h.2.1 h.2.2.1 h.2.2.2.1
theorem cr_no (gs : List GT) (pub vars : Int) (h : ¬ rightC gs pub vars) : Gives Try.prog 43 [.ags [.z [.l (gsC gs)] gs.length, .c (.c (.int .i64 pub)), .c (.c (.int .i64 vars))]] (.v (.bool false)) := by
  by_cases h1 : gs.length ≤ 4096
  · by_cases h2 : 0 ≤ pub
    · by_cases h3 : pub ≤ gs.length
      · by_cases h4 : 0 ≤ vars
        · rcases gate_bad vars gs with hc | ⟨j, x, e1, e2, e3⟩
          · exact absurd ⟨h1, h2, h3, h4, hc⟩ h
          · exact cr_f gs pub vars (by omega) h1 h2 h3 h4 j x e1 e2 e3
        · exact cr_d gs pub vars h1 h2 h3 h4
      · exact cr_c gs pub vars h1 h2 h3
    · exact cr_b gs pub vars h1 h2
  · exact cr_a gs pub vars h1
end Go.Proofs.Ytoigbjimhcgolaa
