/- Contracts of format.clean and of chirographlaw23.clean, numbers, count: lists of elements, counts as bytes. -/
import Derived.Test.YtmbllhibdbeplaaByS
import Derived.Test.YtmbllhibdbeplaaRiS
import Derived.Test.YtmbllhibdbeplaaRun
set_option linter.unusedSimpArgs false
set_option linter.unusedVariables false
namespace Go.Proofs.Ytmbllhibdbeplaa
open Go.Ev Go.RowKit
def sm4 (ns : List Nat) : Prop := ∀ x, x ∈ ns → x < 115792089237316195423570985008687907853269984665640564039457584007913129639936
def cleanN (ns : List Nat) : Prop := ∀ x, x ∈ ns → x < Rr
instance (ns : List Nat) : Decidable (cleanN ns) := inferInstanceAs (Decidable (∀ x, x ∈ ns → x < Rr))
theorem first_bad : ∀ ns : List Nat, cleanN ns ∨ ∃ j x : Nat, ns[j]? = some x ∧ ¬ x < Rr ∧ ∀ (i y : Nat), i < j → ns[i]? = some y → y < Rr
  | [] => .inl (fun x hx => by cases hx)
  | n :: ns => by
    by_cases h : n < Rr
    · rcases first_bad ns with h1 | ⟨j, x, h1, h2, h3⟩
      · exact .inl (fun x hx => by rcases List.mem_cons.1 hx with rfl | hx; exact h; exact h1 x hx)
      · refine .inr ⟨j + 1, x, h1, h2, fun i y hi hy => ?_⟩
        match i, hy with
        | 0, hy => simp only [List.getElem?_cons_zero, Option.some.injEq] at hy; subst hy; exact h
        | i + 1, hy => exact h3 i y (by omega) (by simpa using hy)
    · exact .inr ⟨0, n, rfl, h, fun i y hi => by omega⟩
theorem num_at (ns : List Nat) (i x : Nat) (h : ns[i]? = some x) : sizes [.n 4 x] = 4 ∧ ((flat [.l (numC 4 ns)]).drop (i * 4)).take 4 = flat [.n 4 x] := by
  refine ⟨rfl, ?_⟩
  rw [flat_l]
  have := rows_at (limbs 4) (limbs_length 4) ns i x h
  rw [show numC 4 ns = ns.flatMap (limbs 4) from rfl, this]
  simp [flat, Ch.cells]
theorem get_lt {ns : List Nat} {i x : Nat} (h : ns[i]? = some x) : i < ns.length := (List.getElem?_eq_some_iff.1 h).1
theorem get_mem {ns : List Nat} {i x : Nat} (h : ns[i]? = some x) : x ∈ ns := List.mem_of_getElem? h
theorem get_of {ns : List Nat} {i : Nat} (h : i < ns.length) : ∃ x, ns[i]? = some x := ⟨_, List.getElem?_eq_getElem h⟩
/-! format.clean -/
def eCl1 : Entry := entry1 60 parN4.x (fun a => [(some (a < 115792089237316195423570985008687907853269984665640564039457584007913129639936 ∧ a < Rr), .v (.bool false)), (some (a < 115792089237316195423570985008687907853269984665640564039457584007913129639936 ∧ Rr ≤ a), .v (.bool true))])
theorem eCl1_ok : eCl1.OK Try.prog := entry1_ok (fun args w => Go.Proofs.enters_of (P := Try.prog) Try.func60 (by kernel_rfl) rfl args w) (fun a c r hm hc => by
  simp only [List.mem_cons, Prod.mk.injEq, List.not_mem_nil, or_false] at hm
  rcases hm with ⟨rfl, rfl⟩ | ⟨rfl, rfl⟩
  · exact fn_gives (P := Try.prog) (env := [eFRightS]) ⟨eFRightS_ok, trivial⟩ Try.func60 0 (oN [] [(3, 0)]) (by kernel_rfl) (And.intro (show a < 115792089237316195423570985008687907853269984665640564039457584007913129639936 ∧ a < 52435875175126190479447740508185965837690552500527637822603658699938581184513 from hc) trivial)
  · exact fn_gives (P := Try.prog) (env := [eFRightS]) ⟨eFRightS_ok, trivial⟩ Try.func60 0 (oN [] [(3, 1)]) (by kernel_rfl) (And.intro (show a < 115792089237316195423570985008687907853269984665640564039457584007913129639936 ∧ 52435875175126190479447740508185965837690552500527637822603658699938581184513 ≤ a from hc) trivial))
def fcI (ns : List Nat) (z : Int) : LState := { n := 19, sl := [(0, .sz 0 ns.length), (1, .clo 60 [] []), (7, .v (.int .i64 ((ns.length : Nat) : Int))), (8, .v (.int .i64 z))], hp := [(0, .rz [.l (numC 4 ns)])] }
def fcE (ns : List Nat) : LState := { n := 19, sl := [], hp := [(0, .rz [.l (numC 4 ns)])] }
def fcF (ns : List Nat) (z : Int) : LState := { n := 19, sl := [(4, .v (.int .i64 z))], hp := [(0, .rz [.l (numC 4 ns)])] }
theorem fc_round (ns : List Nat) (i x : Nat) (hx : ns[i]? = some x) (hm : ns.length ≤ 1000000) (hb : sm4 ns) (hr : x < Rr) : Sound Try.prog 8 false (loopB Try.f89 0) (fcI ns (i : Int)).aa .normal (fcI ns ((i + 1 : Nat) : Int)).aa := by
  have hi := get_lt hx
  have hs := roundK_sound (P := Try.prog) (X := rulesY _) (env := [eCl1]) ⟨eCl1_ok, trivial⟩ (n := 0) (os := oL [(12, wT), (18, rO 14 i), (19, { ch := 0, hi := fun _ => 0, ru := 8, cs := fun _ => [.n 4 x] }), (20, wO 0)]) (fb := 8) (rd := false) (c := (loopB Try.f89 0)) (k := 12) (I := fcI ns (i : Int)) (sk := [0, 1, 7, 8]) (hk := [0]) (lk := []) (ex := .normal)
    (L := fcI ns (IntKind.i64.wrap ((i : Int) + 1))) (by kernel_rfl)
    (And.intro (show x < 115792089237316195423570985008687907853269984665640564039457584007913129639936 ∧ x < Rr from ⟨hb x (get_mem hx), hr⟩)
    (And.intro (num_at ns i x hx)
    (And.intro (show (i : Int) = ((i : Nat) : Int) ∧ i < ns.length from ⟨rfl, hi⟩) (And.intro (show decide ((i : Int) < ((ns.length : Nat) : Int)) = true from decide_eq_true (by omega)) trivial))))
  rw [show IntKind.i64.wrap ((i : Int) + 1) = ((i + 1 : Nat) : Int) by rw [wrap_i64]; omega] at hs
  exact hs
theorem fc_end (ns : List Nat) : Sound Try.prog 8 false (loopB Try.f89 0) (fcI ns ((ns.length : Nat) : Int)).aa (.exit 0) (fcE ns).aa :=
  roundK_sound (P := Try.prog) (X := rulesY _) (env := [eCl1]) ⟨eCl1_ok, trivial⟩ (n := 0) (os := oL [(12, wF)]) (fb := 8) (rd := false) (c := (loopB Try.f89 0)) (k := 12) (I := fcI ns ((ns.length : Nat) : Int)) (sk := []) (hk := [0]) (lk := []) (ex := .exit 0)
    (L := fcE ns) (by kernel_rfl) (And.intro (show decide (((ns.length : Nat) : Int) < ((ns.length : Nat) : Int)) = false from decide_eq_false (by omega)) trivial)
theorem fc_ret (ns : List Nat) (i x : Nat) (hx : ns[i]? = some x) (hb : sm4 ns) (hr : ¬ x < Rr) : Sound Try.prog 8 false (loopB Try.f89 0) (fcI ns (i : Int)).aa .ret (fcF ns (i : Int)).aa := by
  have hi := get_lt hx
  exact roundK_sound (P := Try.prog) (X := rulesY _) (env := [eCl1]) ⟨eCl1_ok, trivial⟩ (n := 0) (os := oL [(12, wT), (18, rO 14 i), (19, { ch := 0, hi := fun _ => 0, ru := 8, cs := fun _ => [.n 4 x] }), (20, wO 1)]) (fb := 8) (rd := false) (c := (loopB Try.f89 0)) (k := 12) (I := fcI ns (i : Int)) (sk := [4]) (hk := [0]) (lk := []) (ex := .ret)
    (L := fcF ns (i : Int)) (by kernel_rfl)
    (And.intro (show x < 115792089237316195423570985008687907853269984665640564039457584007913129639936 ∧ Rr ≤ x from ⟨hb x (get_mem hx), Nat.le_of_not_lt hr⟩)
    (And.intro (num_at ns i x hx)
    (And.intro (show (i : Int) = ((i : Nat) : Int) ∧ i < ns.length from ⟨rfl, hi⟩) (And.intro (show decide ((i : Int) < ((ns.length : Nat) : Int)) = true from decide_eq_true (by omega)) trivial))))
theorem fc_all (ns : List Nat) (hm : ns.length ≤ 1000000) (hb : sm4 ns) (hc : cleanN ns) : Sound Try.prog 8 false (.loop (loopB Try.f89 0)) (fcI ns 0).aa (.exit 0) (fcE ns).aa := by
  refine loop_ok (m := fun y : { i : Nat // i ≤ ns.length } => ns.length - y.val) (fun y => fcI ns (y.val : Int)) (by simp) (fun y => ?_) ⟨0, by omega⟩
  obtain ⟨i, hi⟩ := y
  by_cases e : i < ns.length
  · obtain ⟨x, hx⟩ := get_of e
    exact .inl ⟨⟨i + 1, e⟩, by show ns.length - (i + 1) < ns.length - i; omega, fc_round ns i x hx hm hb (hc x (get_mem hx))⟩
  · have e : i = ns.length := by omega
    subst e
    exact .inr (fc_end ns)
theorem fc_no (ns : List Nat) (hm : ns.length ≤ 1000000) (hb : sm4 ns) (j x : Nat) (hj : ns[j]? = some x) (hx : ¬ x < Rr) (hp : ∀ i y, i < j → ns[i]? = some y → y < Rr) : Sound Try.prog 8 false (.loop (loopB Try.f89 0)) (fcI ns 0).aa .ret (fcF ns (j : Int)).aa := by
  refine loop_ok (m := fun y : { i : Nat // i ≤ j } => j - y.val) (fun y => fcI ns (y.val : Int)) (by simp) (fun y => ?_) ⟨0, by omega⟩
  obtain ⟨i, hi⟩ := y
  by_cases e : i < j
  · obtain ⟨y, hy⟩ := get_of (show i < ns.length by have := get_lt hj; omega)
    exact .inl ⟨⟨i + 1, by omega⟩, by show j - (i + 1) < j - i; omega, fc_round ns i y hy hm hb (hp i y e hy)⟩
  · have e : i = j := by omega
    subst e
    exact .inr (fc_ret ns i x hj hb hx)
theorem fclean_yes (ns : List Nat) (hm : ns.length ≤ 1000000) (hb : sm4 ns) (hc : cleanN ns) : Gives Try.prog 30 [.rz [.l (numC 4 ns)] ns.length] (.v (.bool true)) :=
  fn_gives_at (P := Try.prog) (X := rulesY _) (env := [eCl1]) ⟨eCl1_ok, trivial⟩ Try.func30 2 (oL [(12, lpO { I := fcI ns 0, ex := .exit 0, E := fcE ns, fr := 13 })]) (by kernel_rfl) ⟨_, rfl⟩
    (And.intro (show some (fcI ns 0) = some (fcI ns 0) from rfl) (And.intro (fc_all ns hm hb hc) trivial))
theorem fclean_no (ns : List Nat) (hm : ns.length ≤ 1000000) (hb : sm4 ns) (hc : ¬ cleanN ns) : Gives Try.prog 30 [.rz [.l (numC 4 ns)] ns.length] (.v (.bool false)) := by
  rcases first_bad ns with h | ⟨j, x, h1, h2, h3⟩
  · exact absurd h hc
  · exact fn_gives_at (P := Try.prog) (X := rulesY _) (env := [eCl1]) ⟨eCl1_ok, trivial⟩ Try.func30 2 (oL [(12, lpO { I := fcI ns 0, ex := .ret, E := fcF ns (j : Int), fr := 13 }), (13, wT)]) (by kernel_rfl) ⟨_, rfl⟩
      (And.intro (show decide ((j : Int) ≥ 0) = true from decide_eq_true (by omega)) (And.intro (show some (fcI ns 0) = some (fcI ns 0) from rfl) (And.intro (fc_no ns hm hb j x h1 h2 h3) trivial)))
def parNs : XPar (List Nat) := XPar.ns 4 parN4 (fun _ => rfl)
def eFClean : Entry := entry1 30 parNs (fun ns => [(some (ns.length ≤ 1000000 ∧ sm4 ns ∧ cleanN ns), .v (.bool true)), (some (ns.length ≤ 1000000 ∧ sm4 ns ∧ ¬ cleanN ns), .v (.bool false))])
theorem eFClean_ok : eFClean.OK Try.prog := entry1_ok (fun args w => Go.Proofs.enters_of (P := Try.prog) Try.func30 (by kernel_rfl) rfl args w) (fun ns c r hm hc => by
  simp only [List.mem_cons, Prod.mk.injEq, List.not_mem_nil, or_false] at hm
  rcases hm with ⟨rfl, rfl⟩ | ⟨rfl, rfl⟩
  · exact fclean_yes ns hc.1 hc.2.1 hc.2.2
  · exact fclean_no ns hc.1 hc.2.1 hc.2.2)
end Go.Proofs.Ytmbllhibdbeplaa
