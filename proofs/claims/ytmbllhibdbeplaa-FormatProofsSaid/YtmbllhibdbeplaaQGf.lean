/- Pruned: Gf. -/
import Derived.Test.YtmbllhibdbeplaaQZhRcS
import Derived.Test.YtmbllhibdbeplaaQZhCmS
import Derived.Test.YtmbllhibdbeplaaQGb
import Derived.Test.YtmbllhibdbeplaaQGa
/- The contract of the layer fr: which numbers are elements. -/
set_option linter.unusedSimpArgs false
set_option linter.unusedVariables false
namespace Go.Proofs.Ytmbllhibdbeplaa
open Go.Ev Go.RowKit

theorem rightS_lo (a : Nat) (ha : a < 115792089237316195423570985008687907853269984665640564039457584007913129639936) (h : a < 52435875175126190479447740508185965837690552500527637822603658699938581184513) : Gives Try.prog 33 [.t (.ag [.n 4 a])] (.v (.bool true)) :=
  fn_gives (P := Try.prog) (env := [eCmpS, eRS]) ⟨eCmpS_ok, eRS_ok, trivial⟩ Try.func33 0 (oN [] [(7, 0)]) (by kernel_rfl)
      (And.intro (show a < 115792089237316195423570985008687907853269984665640564039457584007913129639936 ∧ 52435875175126190479447740508185965837690552500527637822603658699938581184513 < 115792089237316195423570985008687907853269984665640564039457584007913129639936 ∧ a < 52435875175126190479447740508185965837690552500527637822603658699938581184513 from ⟨ha, by decide, h⟩) trivial)
theorem rightS_eq (a : Nat) (ha : a < 115792089237316195423570985008687907853269984665640564039457584007913129639936) (h : a = 52435875175126190479447740508185965837690552500527637822603658699938581184513) : Gives Try.prog 33 [.t (.ag [.n 4 a])] (.v (.bool false)) :=
  fn_gives (P := Try.prog) (env := [eCmpS, eRS]) ⟨eCmpS_ok, eRS_ok, trivial⟩ Try.func33 0 (oN [] [(7, 1)]) (by kernel_rfl)
      (And.intro (show a < 115792089237316195423570985008687907853269984665640564039457584007913129639936 ∧ 52435875175126190479447740508185965837690552500527637822603658699938581184513 < 115792089237316195423570985008687907853269984665640564039457584007913129639936 ∧ a = 52435875175126190479447740508185965837690552500527637822603658699938581184513 from ⟨ha, by decide, h⟩) trivial)
theorem rightS_hi (a : Nat) (ha : a < 115792089237316195423570985008687907853269984665640564039457584007913129639936) (h : 52435875175126190479447740508185965837690552500527637822603658699938581184513 < a) : Gives Try.prog 33 [.t (.ag [.n 4 a])] (.v (.bool false)) :=
  fn_gives (P := Try.prog) (env := [eCmpS, eRS]) ⟨eCmpS_ok, eRS_ok, trivial⟩ Try.func33 0 (oN [] [(7, 2)]) (by kernel_rfl)
      (And.intro (show a < 115792089237316195423570985008687907853269984665640564039457584007913129639936 ∧ 52435875175126190479447740508185965837690552500527637822603658699938581184513 < 115792089237316195423570985008687907853269984665640564039457584007913129639936 ∧ 52435875175126190479447740508185965837690552500527637822603658699938581184513 < a from ⟨ha, by decide, h⟩) trivial)
theorem rightS_no (a : Nat) (ha : a < 115792089237316195423570985008687907853269984665640564039457584007913129639936) (h : 52435875175126190479447740508185965837690552500527637822603658699938581184513 ≤ a) : Gives Try.prog 33 [.t (.ag [.n 4 a])] (.v (.bool false)) := by
  rcases Nat.lt_or_eq_of_le h with h | h
  · exact rightS_hi a ha h
  · exact rightS_eq a ha h.symm
def eFRightS : Entry := entry1 33 parN4.x (fun a => [(some (a < 115792089237316195423570985008687907853269984665640564039457584007913129639936 ∧ a < 52435875175126190479447740508185965837690552500527637822603658699938581184513), .v (.bool true)), (some (a < 115792089237316195423570985008687907853269984665640564039457584007913129639936 ∧ 52435875175126190479447740508185965837690552500527637822603658699938581184513 ≤ a), .v (.bool false))])
theorem eFRightS_ok : eFRightS.OK Try.prog := entry1_ok (fun args w => Go.Proofs.enters_of (P := Try.prog) Try.func33 (by kernel_rfl) rfl args w) (fun a c r hm hc => by
  simp only [List.mem_cons, Prod.mk.injEq, List.not_mem_nil, or_false] at hm
  rcases hm with ⟨rfl, rfl⟩ | ⟨rfl, rfl⟩
  · exact rightS_lo a hc.1 hc.2
  · exact rightS_no a hc.1 hc.2)
end Go.Proofs.Ytmbllhibdbeplaa

/- Contracts: numbers as bytes and back, the layer fr and its reference. -/
set_option linter.unusedSimpArgs false
set_option linter.unusedVariables false
namespace Go.Proofs.Ytmbllhibdbeplaa
open Go.Ev Go.RowKit

theorem nputS (x : Nat) : Gives Try.prog 62 [.rd [.n 4 x] 4 4] (.v (.string (ofL (beL 32 x)))) := by
  have h : beL 32 x = (List.range 32).map (fun k => UInt8.ofNat (IntKind.u8.wrap ((x / 18446744073709551616 ^ (4 - 1 - k / 8) % 18446744073709551616 / 2 ^ min (56 - 8 * (k % 8)) 64 % 18446744073709551616 : Nat) : Int)).toNat) := by
    rw [beL_range]
    refine List.map_congr_left fun k hk => ?_
    rw [List.mem_range] at hk
    rw [byte_put x _ _ (by omega), ← two_pow_256]
    congr 4
    omega
  rw [h]
  exact fn_gives_at (P := Try.prog) (X := rulesX _) (env := []) trivial Try.func62 4 o0 (by kernel_rfl) ⟨_, rfl⟩ trivial
def eNPutS : Entry := entry1 62 (XPar.rd 4 parN4 (fun _ => rfl)) (fun a => [(none, .v (.string (ofL (beL 32 a))))])
theorem eNPutS_ok : eNPutS.OK Try.prog := entry1_ok (fun args w => Go.Proofs.enters_of (P := Try.prog) Try.func62 (by kernel_rfl) rfl args w) (fun a => only (nputS a))
def eFPutS : Entry := entry1 31 par1S (fun a => [(some (smtS a), .v (.string (ofL (beL 32 (eltS a).val))))])
theorem eFPutS_ok : eFPutS.OK Try.prog := entry1_ok (fun args w => Go.Proofs.enters_of (P := Try.prog) Try.func31 (by kernel_rfl) rfl args w) (fun a => match a with
  | .inl a => onlyIf (fun h => fn_gives (P := Try.prog) (env := [eFCleanS, eNPutS]) ⟨eFCleanS_ok, eNPutS_ok, trivial⟩ Try.func31 0 o0 (by kernel_rfl) (And.intro h trivial))
  | .inr a => onlyIf (fun h => fn_gives (P := Try.prog) (env := [eFCleanS, eNPutS]) ⟨eFCleanS_ok, eNPutS_ok, trivial⟩ Try.func31 0 o0 (by kernel_rfl) (And.intro h trivial)))
end Go.Proofs.Ytmbllhibdbeplaa

/- Contracts of format.clean and of chirographlaw23.clean, numbers, count: lists of elements, counts as bytes. -/
set_option linter.unusedSimpArgs false
set_option linter.unusedVariables false
namespace Go.Proofs.Ytmbllhibdbeplaa
open Go.Ev Go.RowKit
def sm4 (ns : List Nat) : Prop := ∀ x, x ∈ ns → x < 115792089237316195423570985008687907853269984665640564039457584007913129639936
def cleanN (ns : List Nat) : Prop := ∀ x, x ∈ ns → x < Rr
instance (ns : List Nat) : Decidable (cleanN ns) := inferInstanceAs (Decidable (∀ x, x ∈ ns → x < Rr))
theorem first_bad : ∀ ns : List Nat, cleanN ns ∨ ∃ j x : Nat, ns[j]? = some x ∧ ¬ x < Rr ∧ ∀ (i y : Nat), i < j → ns[i]? = some y → y < Rr
  | [] => .inl (fun x hx => by cases hx)
  | n :: ns => by
    by_cases h : n < Rr
    · rcases first_bad ns with h1 | ⟨j, x, h1, h2, h3⟩
      · exact .inl (fun x hx => by rcases List.mem_cons.1 hx with rfl | hx; exact h; exact h1 x hx)
      · refine .inr ⟨j + 1, x, h1, h2, fun i y hi hy => ?_⟩
        match i, hy with
        | 0, hy => simp only [List.getElem?_cons_zero, Option.some.injEq] at hy; subst hy; exact h
        | i + 1, hy => exact h3 i y (by omega) (by simpa using hy)
    · exact .inr ⟨0, n, rfl, h, fun i y hi => by omega⟩
theorem num_at (ns : List Nat) (i x : Nat) (h : ns[i]? = some x) : sizes [.n 4 x] = 4 ∧ ((flat [.l (numC 4 ns)]).drop (i * 4)).take 4 = flat [.n 4 x] := by
  refine ⟨rfl, ?_⟩
  rw [flat_l]
  have := rows_at (limbs 4) (limbs_length 4) ns i x h
  rw [show numC 4 ns = ns.flatMap (limbs 4) from rfl, this]
  simp [flat, Ch.cells]
theorem get_lt {ns : List Nat} {i x : Nat} (h : ns[i]? = some x) : i < ns.length := (List.getElem?_eq_some_iff.1 h).1
theorem get_mem {ns : List Nat} {i x : Nat} (h : ns[i]? = some x) : x ∈ ns := List.mem_of_getElem? h
theorem get_of {ns : List Nat} {i : Nat} (h : i < ns.length) : ∃ x, ns[i]? = some x := ⟨_, List.getElem?_eq_getElem h⟩
/-! format.clean -/
def eCl1 : Entry := entry1 60 parN4.x (fun a => [(some (a < 115792089237316195423570985008687907853269984665640564039457584007913129639936 ∧ a < Rr), .v (.bool false)), (some (a < 115792089237316195423570985008687907853269984665640564039457584007913129639936 ∧ Rr ≤ a), .v (.bool true))])
theorem eCl1_ok : eCl1.OK Try.prog := entry1_ok (fun args w => Go.Proofs.enters_of (P := Try.prog) Try.func60 (by kernel_rfl) rfl args w) (fun a c r hm hc => by
  simp only [List.mem_cons, Prod.mk.injEq, List.not_mem_nil, or_false] at hm
  rcases hm with ⟨rfl, rfl⟩ | ⟨rfl, rfl⟩
  · exact fn_gives (P := Try.prog) (env := [eFRightS]) ⟨eFRightS_ok, trivial⟩ Try.func60 0 (oN [] [(3, 0)]) (by kernel_rfl) (And.intro (show a < 115792089237316195423570985008687907853269984665640564039457584007913129639936 ∧ a < 52435875175126190479447740508185965837690552500527637822603658699938581184513 from hc) trivial)
  · exact fn_gives (P := Try.prog) (env := [eFRightS]) ⟨eFRightS_ok, trivial⟩ Try.func60 0 (oN [] [(3, 1)]) (by kernel_rfl) (And.intro (show a < 115792089237316195423570985008687907853269984665640564039457584007913129639936 ∧ 52435875175126190479447740508185965837690552500527637822603658699938581184513 ≤ a from hc) trivial))
def fcI (ns : List Nat) (z : Int) : LState := { n := 19, sl := [(0, .sz 0 ns.length), (1, .clo 60 [] []), (7, .v (.int .i64 ((ns.length : Nat) : Int))), (8, .v (.int .i64 z))], hp := [(0, .rz [.l (numC 4 ns)])] }
def fcE (ns : List Nat) : LState := { n := 19, sl := [], hp := [(0, .rz [.l (numC 4 ns)])] }
def fcF (ns : List Nat) (z : Int) : LState := { n := 19, sl := [(4, .v (.int .i64 z))], hp := [(0, .rz [.l (numC 4 ns)])] }
theorem fc_round (ns : List Nat) (i x : Nat) (hx : ns[i]? = some x) (hm : ns.length ≤ 1000000) (hb : sm4 ns) (hr : x < Rr) : Sound Try.prog 8 false (loopB Try.f89 0) (fcI ns (i : Int)).aa .normal (fcI ns ((i + 1 : Nat) : Int)).aa := by
  have hi := get_lt hx
  have hs := roundK_sound (P := Try.prog) (X := rulesY _) (env := [eCl1]) ⟨eCl1_ok, trivial⟩ (n := 0) (os := oL [(12, wT), (18, rO 14 i), (19, { ch := 0, hi := fun _ => 0, ru := 8, cs := fun _ => [.n 4 x] }), (20, wO 0)]) (fb := 8) (rd := false) (c := (loopB Try.f89 0)) (k := 12) (I := fcI ns (i : Int)) (sk := [0, 1, 7, 8]) (hk := [0]) (lk := []) (ex := .normal)
    (L := fcI ns (IntKind.i64.wrap ((i : Int) + 1))) (by kernel_rfl)
    (And.intro (show x < 115792089237316195423570985008687907853269984665640564039457584007913129639936 ∧ x < Rr from ⟨hb x (get_mem hx), hr⟩)
    (And.intro (num_at ns i x hx)
    (And.intro (show (i : Int) = ((i : Nat) : Int) ∧ i < ns.length from ⟨rfl, hi⟩) (And.intro (show decide ((i : Int) < ((ns.length : Nat) : Int)) = true from decide_eq_true (by omega)) trivial))))
  rw [show IntKind.i64.wrap ((i : Int) + 1) = ((i + 1 : Nat) : Int) by rw [wrap_i64]; omega] at hs
  exact hs
theorem fc_end (ns : List Nat) : Sound Try.prog 8 false (loopB Try.f89 0) (fcI ns ((ns.length : Nat) : Int)).aa (.exit 0) (fcE ns).aa :=
  roundK_sound (P := Try.prog) (X := rulesY _) (env := [eCl1]) ⟨eCl1_ok, trivial⟩ (n := 0) (os := oL [(12, wF)]) (fb := 8) (rd := false) (c := (loopB Try.f89 0)) (k := 12) (I := fcI ns ((ns.length : Nat) : Int)) (sk := []) (hk := [0]) (lk := []) (ex := .exit 0)
    (L := fcE ns) (by kernel_rfl) (And.intro (show decide (((ns.length : Nat) : Int) < ((ns.length : Nat) : Int)) = false from decide_eq_false (by omega)) trivial)
theorem fc_ret (ns : List Nat) (i x : Nat) (hx : ns[i]? = some x) (hb : sm4 ns) (hr : ¬ x < Rr) : Sound Try.prog 8 false (loopB Try.f89 0) (fcI ns (i : Int)).aa .ret (fcF ns (i : Int)).aa := by
  have hi := get_lt hx
  exact roundK_sound (P := Try.prog) (X := rulesY _) (env := [eCl1]) ⟨eCl1_ok, trivial⟩ (n := 0) (os := oL [(12, wT), (18, rO 14 i), (19, { ch := 0, hi := fun _ => 0, ru := 8, cs := fun _ => [.n 4 x] }), (20, wO 1)]) (fb := 8) (rd := false) (c := (loopB Try.f89 0)) (k := 12) (I := fcI ns (i : Int)) (sk := [4]) (hk := [0]) (lk := []) (ex := .ret)
    (L := fcF ns (i : Int)) (by kernel_rfl)
    (And.intro (show x < 115792089237316195423570985008687907853269984665640564039457584007913129639936 ∧ Rr ≤ x from ⟨hb x (get_mem hx), Nat.le_of_not_lt hr⟩)
    (And.intro (num_at ns i x hx)
    (And.intro (show (i : Int) = ((i : Nat) : Int) ∧ i < ns.length from ⟨rfl, hi⟩) (And.intro (show decide ((i : Int) < ((ns.length : Nat) : Int)) = true from decide_eq_true (by omega)) trivial))))
theorem fc_all (ns : List Nat) (hm : ns.length ≤ 1000000) (hb : sm4 ns) (hc : cleanN ns) : Sound Try.prog 8 false (.loop (loopB Try.f89 0)) (fcI ns 0).aa (.exit 0) (fcE ns).aa := by
  refine loop_ok (m := fun y : { i : Nat // i ≤ ns.length } => ns.length - y.val) (fun y => fcI ns (y.val : Int)) (by simp) (fun y => ?_) ⟨0, by omega⟩
  obtain ⟨i, hi⟩ := y
  by_cases e : i < ns.length
  · obtain ⟨x, hx⟩ := get_of e
    exact .inl ⟨⟨i + 1, e⟩, by show ns.length - (i + 1) < ns.length - i; omega, fc_round ns i x hx hm hb (hc x (get_mem hx))⟩
  · have e : i = ns.length := by omega
    subst e
    exact .inr (fc_end ns)
theorem fc_no (ns : List Nat) (hm : ns.length ≤ 1000000) (hb : sm4 ns) (j x : Nat) (hj : ns[j]? = some x) (hx : ¬ x < Rr) (hp : ∀ i y, i < j → ns[i]? = some y → y < Rr) : Sound Try.prog 8 false (.loop (loopB Try.f89 0)) (fcI ns 0).aa .ret (fcF ns (j : Int)).aa := by
  refine loop_ok (m := fun y : { i : Nat // i ≤ j } => j - y.val) (fun y => fcI ns (y.val : Int)) (by simp) (fun y => ?_) ⟨0, by omega⟩
  obtain ⟨i, hi⟩ := y
  by_cases e : i < j
  · obtain ⟨y, hy⟩ := get_of (show i < ns.length by have := get_lt hj; omega)
    exact .inl ⟨⟨i + 1, by omega⟩, by show j - (i + 1) < j - i; omega, fc_round ns i y hy hm hb (hp i y e hy)⟩
  · have e : i = j := by omega
    subst e
    exact .inr (fc_ret ns i x hj hb hx)
theorem fclean_yes (ns : List Nat) (hm : ns.length ≤ 1000000) (hb : sm4 ns) (hc : cleanN ns) : Gives Try.prog 30 [.rz [.l (numC 4 ns)] ns.length] (.v (.bool true)) :=
  fn_gives_at (P := Try.prog) (X := rulesY _) (env := [eCl1]) ⟨eCl1_ok, trivial⟩ Try.func30 2 (oL [(12, lpO { I := fcI ns 0, ex := .exit 0, E := fcE ns, fr := 13 })]) (by kernel_rfl) ⟨_, rfl⟩
    (And.intro (show some (fcI ns 0) = some (fcI ns 0) from rfl) (And.intro (fc_all ns hm hb hc) trivial))
theorem fclean_no (ns : List Nat) (hm : ns.length ≤ 1000000) (hb : sm4 ns) (hc : ¬ cleanN ns) : Gives Try.prog 30 [.rz [.l (numC 4 ns)] ns.length] (.v (.bool false)) := by
  rcases first_bad ns with h | ⟨j, x, h1, h2, h3⟩
  · exact absurd h hc
  · exact fn_gives_at (P := Try.prog) (X := rulesY _) (env := [eCl1]) ⟨eCl1_ok, trivial⟩ Try.func30 2 (oL [(12, lpO { I := fcI ns 0, ex := .ret, E := fcF ns (j : Int), fr := 13 }), (13, wT)]) (by kernel_rfl) ⟨_, rfl⟩
      (And.intro (show decide ((j : Int) ≥ 0) = true from decide_eq_true (by omega)) (And.intro (show some (fcI ns 0) = some (fcI ns 0) from rfl) (And.intro (fc_no ns hm hb j x h1 h2 h3) trivial)))
def parNs : XPar (List Nat) := XPar.ns 4 parN4 (fun _ => rfl)
def eFClean : Entry := entry1 30 parNs (fun ns => [(some (ns.length ≤ 1000000 ∧ sm4 ns ∧ cleanN ns), .v (.bool true)), (some (ns.length ≤ 1000000 ∧ sm4 ns ∧ ¬ cleanN ns), .v (.bool false))])
theorem eFClean_ok : eFClean.OK Try.prog := entry1_ok (fun args w => Go.Proofs.enters_of (P := Try.prog) Try.func30 (by kernel_rfl) rfl args w) (fun ns c r hm hc => by
  simp only [List.mem_cons, Prod.mk.injEq, List.not_mem_nil, or_false] at hm
  rcases hm with ⟨rfl, rfl⟩ | ⟨rfl, rfl⟩
  · exact fclean_yes ns hc.1 hc.2.1 hc.2.2
  · exact fclean_no ns hc.1 hc.2.1 hc.2.2)
end Go.Proofs.Ytmbllhibdbeplaa

/- Contracts of chirographlaw23.clean, numbers and count, and of format.count. -/
set_option linter.unusedSimpArgs false
set_option linter.unusedVariables false
namespace Go.Proofs.Ytmbllhibdbeplaa
open Go.Ev Go.RowKit
/-! chirographlaw23.clean -/
def lcI (ns : List Nat) (z : Int) : LState := { n := 15, sl := [(5, .sz 0 ns.length), (6, .v (.int .i64 ((ns.length : Nat) : Int))), (7, .v (.int .i64 z))], hp := [(0, .rz [.l (numC 4 ns)])] }
def lcE (ns : List Nat) : LState := { n := 15, sl := [], hp := [(0, .rz [.l (numC 4 ns)])] }
def lcF (ns : List Nat) : LState := { n := 15, sl := [(2, .v (.bool false))], hp := [(0, .rz [.l (numC 4 ns)])] }
theorem lc_round (ns : List Nat) (i x : Nat) (hx : ns[i]? = some x) (hm : ns.length ≤ 1000000) (hb : sm4 ns) (hr : x < Rr) : Sound Try.prog 0 false (loopB Try.f10 0) (lcI ns (i : Int)).aa .normal (lcI ns ((i + 1 : Nat) : Int)).aa := by
  have hi := get_lt hx
  have hs := roundK_sound (P := Try.prog) (X := rulesY _) (env := [eFRightS]) ⟨eFRightS_ok, trivial⟩ (n := 0) (os := oL [(5, wT), (6, rO 14 i), (7, { ch := 0, hi := fun _ => 0, ru := 8, cs := fun _ => [.n 4 x] }), (11, wO 0)]) (fb := 0) (rd := false) (c := (loopB Try.f10 0)) (k := 5) (I := lcI ns (i : Int)) (sk := [5, 6, 7]) (hk := [0]) (lk := []) (ex := .normal)
    (L := lcI ns (IntKind.i64.wrap ((i : Int) + 1))) (by kernel_rfl)
    (And.intro (show x < 115792089237316195423570985008687907853269984665640564039457584007913129639936 ∧ x < 52435875175126190479447740508185965837690552500527637822603658699938581184513 from ⟨hb x (get_mem hx), hr⟩)
    (And.intro (num_at ns i x hx)
    (And.intro (show (i : Int) = ((i : Nat) : Int) ∧ i < ns.length from ⟨rfl, hi⟩) (And.intro (show decide ((i : Int) < ((ns.length : Nat) : Int)) = true from decide_eq_true (by omega)) trivial))))
  rw [show IntKind.i64.wrap ((i : Int) + 1) = ((i + 1 : Nat) : Int) by rw [wrap_i64]; omega] at hs
  exact hs
theorem lc_end (ns : List Nat) : Sound Try.prog 0 false (loopB Try.f10 0) (lcI ns ((ns.length : Nat) : Int)).aa (.exit 0) (lcE ns).aa :=
  roundK_sound (P := Try.prog) (X := rulesY _) (env := []) trivial (n := 0) (os := oL [(5, wF)]) (fb := 0) (rd := false) (c := (loopB Try.f10 0)) (k := 5) (I := lcI ns ((ns.length : Nat) : Int)) (sk := []) (hk := [0]) (lk := []) (ex := .exit 0)
    (L := lcE ns) (by kernel_rfl) (And.intro (show decide (((ns.length : Nat) : Int) < ((ns.length : Nat) : Int)) = false from decide_eq_false (by omega)) trivial)
theorem lc_ret (ns : List Nat) (i x : Nat) (hx : ns[i]? = some x) (hb : sm4 ns) (hr : ¬ x < Rr) : Sound Try.prog 0 false (loopB Try.f10 0) (lcI ns (i : Int)).aa .ret (lcF ns).aa := by
  have hi := get_lt hx
  exact roundK_sound (P := Try.prog) (X := rulesY _) (env := [eFRightS]) ⟨eFRightS_ok, trivial⟩ (n := 0) (os := oL [(5, wT), (6, rO 14 i), (7, { ch := 0, hi := fun _ => 0, ru := 8, cs := fun _ => [.n 4 x] }), (11, wO 1)]) (fb := 0) (rd := false) (c := (loopB Try.f10 0)) (k := 5) (I := lcI ns (i : Int)) (sk := [2]) (hk := [0]) (lk := []) (ex := .ret)
    (L := lcF ns) (by kernel_rfl)
    (And.intro (show x < 115792089237316195423570985008687907853269984665640564039457584007913129639936 ∧ 52435875175126190479447740508185965837690552500527637822603658699938581184513 ≤ x from ⟨hb x (get_mem hx), Nat.le_of_not_lt hr⟩)
    (And.intro (num_at ns i x hx)
    (And.intro (show (i : Int) = ((i : Nat) : Int) ∧ i < ns.length from ⟨rfl, hi⟩) (And.intro (show decide ((i : Int) < ((ns.length : Nat) : Int)) = true from decide_eq_true (by omega)) trivial))))
theorem lc_all (ns : List Nat) (hm : ns.length ≤ 1000000) (hb : sm4 ns) (hc : cleanN ns) : Sound Try.prog 0 false (.loop (loopB Try.f10 0)) (lcI ns 0).aa (.exit 0) (lcE ns).aa := by
  refine loop_ok (m := fun y : { i : Nat // i ≤ ns.length } => ns.length - y.val) (fun y => lcI ns (y.val : Int)) (by simp) (fun y => ?_) ⟨0, by omega⟩
  obtain ⟨i, hi⟩ := y
  by_cases e : i < ns.length
  · obtain ⟨x, hx⟩ := get_of e
    exact .inl ⟨⟨i + 1, e⟩, by show ns.length - (i + 1) < ns.length - i; omega, lc_round ns i x hx hm hb (hc x (get_mem hx))⟩
  · have e : i = ns.length := by omega
    subst e
    exact .inr (lc_end ns)
theorem lc_no (ns : List Nat) (hm : ns.length ≤ 1000000) (hb : sm4 ns) (j x : Nat) (hj : ns[j]? = some x) (hx : ¬ x < Rr) (hp : ∀ i y, i < j → ns[i]? = some y → y < Rr) : Sound Try.prog 0 false (.loop (loopB Try.f10 0)) (lcI ns 0).aa .ret (lcF ns).aa := by
  refine loop_ok (m := fun y : { i : Nat // i ≤ j } => j - y.val) (fun y => lcI ns (y.val : Int)) (by simp) (fun y => ?_) ⟨0, by omega⟩
  obtain ⟨i, hi⟩ := y
  by_cases e : i < j
  · obtain ⟨y, hy⟩ := get_of (show i < ns.length by have := get_lt hj; omega)
    exact .inl ⟨⟨i + 1, by omega⟩, by show j - (i + 1) < j - i; omega, lc_round ns i y hy hm hb (hp i y e hy)⟩
  · have e : i = j := by omega
    subst e
    exact .inr (lc_ret ns i x hj hb hx)
theorem lclean_yes (ns : List Nat) (hm : ns.length ≤ 1000000) (hb : sm4 ns) (hc : cleanN ns) : Gives Try.prog 10 [.rz [.l (numC 4 ns)] ns.length] (.v (.bool true)) :=
  fn_gives_at (P := Try.prog) (X := rulesY _) (env := []) trivial Try.func10 0 (oL [(5, lpO { I := lcI ns 0, ex := .exit 0, E := lcE ns, fr := 6 })]) (by kernel_rfl) ⟨_, rfl⟩
    (And.intro (show some (lcI ns 0) = some (lcI ns 0) from rfl) (And.intro (lc_all ns hm hb hc) trivial))
theorem lclean_no (ns : List Nat) (hm : ns.length ≤ 1000000) (hb : sm4 ns) (hc : ¬ cleanN ns) : Gives Try.prog 10 [.rz [.l (numC 4 ns)] ns.length] (.v (.bool false)) := by
  rcases first_bad ns with h | ⟨j, x, h1, h2, h3⟩
  · exact absurd h hc
  · exact fn_gives_at (P := Try.prog) (X := rulesY _) (env := []) trivial Try.func10 0 (oL [(5, lpO { I := lcI ns 0, ex := .ret, E := lcF ns, fr := 6 })]) (by kernel_rfl) ⟨_, rfl⟩
      (And.intro (show some (lcI ns 0) = some (lcI ns 0) from rfl) (And.intro (lc_no ns hm hb j x h1 h2 h3) trivial))
def eLClean : Entry := entry1 10 parNs (fun ns => [(some (ns.length ≤ 1000000 ∧ sm4 ns ∧ cleanN ns), .v (.bool true)), (some (ns.length ≤ 1000000 ∧ sm4 ns ∧ ¬ cleanN ns), .v (.bool false))])
theorem eLClean_ok : eLClean.OK Try.prog := entry1_ok (fun args w => Go.Proofs.enters_of (P := Try.prog) Try.func10 (by kernel_rfl) rfl args w) (fun ns c r hm hc => by
  simp only [List.mem_cons, Prod.mk.injEq, List.not_mem_nil, or_false] at hm
  rcases hm with ⟨rfl, rfl⟩ | ⟨rfl, rfl⟩
  · exact lclean_yes ns hc.1 hc.2.1 hc.2.2
  · exact lclean_no ns hc.1 hc.2.1 hc.2.2)
/-! chirographlaw23.numbers -/
def putN (n : Nat) : List UInt8 := beL 32 (eltS (.inr n)).val
def numB (ns : List Nat) : List UInt8 := ns.flatMap putN
theorem putN_length (n : Nat) : (putN n).length = 32 := beL_length _ _
theorem numB_length (ns : List Nat) : (numB ns).length = 32 * ns.length := by
  induction ns with
  | nil => rfl
  | cons n ns ih => simp only [numB, List.flatMap_cons, List.length_append, putN_length, List.length_cons] at ih ⊢; omega
theorem take_succ_of {ns : List Nat} {i x : Nat} (h : ns[i]? = some x) : ns.take (i + 1) = ns.take i ++ [x] := by
  rw [List.take_add_one, h]; rfl
theorem numB_succ {ns : List Nat} {i x : Nat} (h : ns[i]? = some x) : numB (ns.take (i + 1)) = numB (ns.take i) ++ putN x := by
  rw [take_succ_of h]; simp [numB]
def nbI (ns : List Nat) (b : List UInt8) (z : Int) : LState := { n := 18, sl := [(3, .v (.string (ofL b))), (6, .sz 0 ns.length), (7, .v (.int .i64 ((ns.length : Nat) : Int))), (8, .v (.int .i64 z))], hp := [(0, .rz [.l (numC 4 ns)])] }
def nbE (ns : List Nat) (b : List UInt8) : LState := { n := 18, sl := [(3, .v (.string (ofL b)))], hp := [(0, .rz [.l (numC 4 ns)])] }
theorem nb_round (ns : List Nat) (i x : Nat) (hx : ns[i]? = some x) (hm : ns.length ≤ 1000000) (hb : sm4 ns) : Sound Try.prog 0 false (loopB Try.f11 0) (nbI ns (numB (ns.take i)) (i : Int)).aa .normal (nbI ns (numB (ns.take (i + 1))) ((i + 1 : Nat) : Int)).aa := by
  have hi := get_lt hx
  have hs := roundK_sound (P := Try.prog) (X := rulesY _) (env := [eFPutS]) ⟨eFPutS_ok, trivial⟩ (n := 0) (os := oL [(6, wT), (7, rO 14 i), (8, { ch := 0, hi := fun _ => 0, ru := 8, cs := fun _ => [.n 4 x] }), (13, wO 0), (14, rO 6 0)]) (fb := 0) (rd := false) (c := (loopB Try.f11 0)) (k := 6) (I := nbI ns (numB (ns.take i)) (i : Int)) (sk := [3, 6, 7, 8]) (hk := [0]) (lk := []) (ex := .normal)
    (L := nbI ns (numB (ns.take i) ++ putN x) (IntKind.i64.wrap ((i : Int) + 1))) (by kernel_rfl)
    (And.intro (show (ofL (numB (ns.take i))).size + (ofL (putN x)).size ≤ 9223372036854775807 from by
      show (numB (ns.take i)).length + (putN x).length ≤ _
      rw [numB_length, putN_length, List.length_take]; omega)
    (And.intro (show smtS (.inr x) from hb x (get_mem hx))
    (And.intro (num_at ns i x hx)
    (And.intro (show (i : Int) = ((i : Nat) : Int) ∧ i < ns.length from ⟨rfl, hi⟩) (And.intro (show decide ((i : Int) < ((ns.length : Nat) : Int)) = true from decide_eq_true (by omega)) trivial)))))
  rw [show IntKind.i64.wrap ((i : Int) + 1) = ((i + 1 : Nat) : Int) by rw [wrap_i64]; omega, ← numB_succ hx] at hs
  exact hs
theorem nb_end (ns : List Nat) (b : List UInt8) : Sound Try.prog 0 false (loopB Try.f11 0) (nbI ns b ((ns.length : Nat) : Int)).aa (.exit 0) (nbE ns b).aa :=
  roundK_sound (P := Try.prog) (X := rulesY _) (env := []) trivial (n := 0) (os := oL [(6, wF)]) (fb := 0) (rd := false) (c := (loopB Try.f11 0)) (k := 6) (I := nbI ns b ((ns.length : Nat) : Int)) (sk := [3]) (hk := [0]) (lk := []) (ex := .exit 0)
    (L := nbE ns b) (by kernel_rfl) (And.intro (show decide (((ns.length : Nat) : Int) < ((ns.length : Nat) : Int)) = false from decide_eq_false (by omega)) trivial)
theorem nb_all (ns : List Nat) (hm : ns.length ≤ 1000000) (hb : sm4 ns) : Sound Try.prog 0 false (.loop (loopB Try.f11 0)) (nbI ns [] 0).aa (.exit 0) (nbE ns (numB ns)).aa := by
  refine loop_ok (m := fun y : { i : Nat // i ≤ ns.length } => ns.length - y.val) (fun y => nbI ns (numB (ns.take y.val)) (y.val : Int)) (by simp) (fun y => ?_) ⟨0, by omega⟩
  obtain ⟨i, hi⟩ := y
  by_cases e : i < ns.length
  · obtain ⟨x, hx⟩ := get_of e
    exact .inl ⟨⟨i + 1, e⟩, by show ns.length - (i + 1) < ns.length - i; omega, nb_round ns i x hx hm hb⟩
  · have e : i = ns.length := by omega
    subst e
    rw [List.take_length]
    exact .inr (nb_end ns _)
theorem lnum (ns : List Nat) (hm : ns.length ≤ 1000000) (hb : sm4 ns) : Gives Try.prog 11 [.rz [.l (numC 4 ns)] ns.length] (.v (.string (ofL (numB ns)))) :=
  fn_gives_at (P := Try.prog) (X := rulesY _) (env := []) trivial Try.func11 0 (oL [(6, lpO { I := nbI ns [] 0, ex := .exit 0, E := nbE ns (numB ns), fr := 7 })]) (by kernel_rfl) ⟨_, rfl⟩
    (And.intro (show some (nbI ns [] 0) = some (nbI ns [] 0) from rfl) (And.intro (nb_all ns hm hb) trivial))
def eLNum : Entry := entry1 11 parNs (fun ns => [(some (ns.length ≤ 1000000 ∧ sm4 ns), .v (.string (ofL (numB ns))))])
theorem eLNum_ok : eLNum.OK Try.prog := entry1_ok (fun args w => Go.Proofs.enters_of (P := Try.prog) Try.func11 (by kernel_rfl) rfl args w) (fun ns => onlyIf (fun h => lnum ns h.1 h.2))
/-! counts -/
def b4 (k : IntKind) (n : Int) : List UInt8 := [UInt8.ofNat (IntKind.u8.wrap (n.fdiv (2 ^ min 24 k.bits))).toNat, UInt8.ofNat (IntKind.u8.wrap (n.fdiv (2 ^ min 16 k.bits))).toNat, UInt8.ofNat (IntKind.u8.wrap (n.fdiv (2 ^ min 8 k.bits))).toNat, UInt8.ofNat (IntKind.u8.wrap n).toNat]
def eFCnt : Entry := entry1 29 (XPar.int .u32) (fun n => [(none, .v (.string (ofL (b4 .u32 n))))])
theorem eFCnt_ok : eFCnt.OK Try.prog := entry1_ok (fun args w => Go.Proofs.enters_of (P := Try.prog) Try.func29 (by kernel_rfl) rfl args w) (fun n => only (fn_gives (P := Try.prog) (env := []) trivial Try.func29 0 o0 (by kernel_rfl) trivial))
end Go.Proofs.Ytmbllhibdbeplaa

/- Contracts of circuit.Right and of chirographref18.Right: which circuits may be. -/
set_option linter.unusedSimpArgs false
set_option linter.unusedVariables false
namespace Go.Proofs.Ytmbllhibdbeplaa
open Go.Ev Go.RowKit
structure GT where
  q0 : Nat
  q1 : Nat
  q2 : Nat
  q3 : Nat
  q4 : Nat
  w0 : Int
  w1 : Int
  w2 : Int
def bw (vars v : Int) : Prop := v < -1 ∨ v ≥ vars
instance (vars v : Int) : Decidable (bw vars v) := inferInstanceAs (Decidable (_ ∨ _))
def okW (vars : Int) (g : GT) : Prop := ¬ bw vars g.w0 ∧ ¬ bw vars g.w1 ∧ ¬ bw vars g.w2
instance (vars : Int) (g : GT) : Decidable (okW vars g) := inferInstanceAs (Decidable (_ ∧ _))
/-! chirographref18.Right -/
/-! circuit.Right -/
end Go.Proofs.Ytmbllhibdbeplaa

/- Contract of format.PutCircuit. -/
set_option linter.unusedSimpArgs false
set_option linter.unusedVariables false
namespace Go.Proofs.Ytmbllhibdbeplaa
open Go.Ev Go.RowKit
def gN (g : GT) : List Nat := [g.q0, g.q1, g.q2, g.q3, g.q4]
def cleanG (g : GT) : Prop := cleanN (gN g)
instance (g : GT) : Decidable (cleanG g) := inferInstanceAs (Decidable (cleanN _))
theorem flat_y (l : List UInt8) : flat [.y l] = l.map byteV := by simp [flat, Ch.cells]
end Go.Proofs.Ytmbllhibdbeplaa
