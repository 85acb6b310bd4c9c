/- Contracts of chirographlaw23.clean, numbers and count, and of format.count. -/
import Derived.Test.YtmbllhibdbeplaaFm1
set_option linter.unusedSimpArgs false
set_option linter.unusedVariables false
namespace Go.Proofs.Ytmbllhibdbeplaa
open Go.Ev Go.RowKit
/-! chirographlaw23.clean -/
def lcI (ns : List Nat) (z : Int) : LState := { n := 15, sl := [(5, .sz 0 ns.length), (6, .v (.int .i64 ((ns.length : Nat) : Int))), (7, .v (.int .i64 z))], hp := [(0, .rz [.l (numC 4 ns)])] }
def lcE (ns : List Nat) : LState := { n := 15, sl := [], hp := [(0, .rz [.l (numC 4 ns)])] }
def lcF (ns : List Nat) : LState := { n := 15, sl := [(2, .v (.bool false))], hp := [(0, .rz [.l (numC 4 ns)])] }
theorem lc_round (ns : List Nat) (i x : Nat) (hx : ns[i]? = some x) (hm : ns.length ≤ 1000000) (hb : sm4 ns) (hr : x < Rr) : Sound Try.prog 0 false (loopB Try.f10 0) (lcI ns (i : Int)).aa .normal (lcI ns ((i + 1 : Nat) : Int)).aa := by
  have hi := get_lt hx
  have hs := roundK_sound (P := Try.prog) (X := rulesY _) (env := [eFRightS]) ⟨eFRightS_ok, trivial⟩ (n := 0) (os := oL [(5, wT), (6, rO 14 i), (7, { ch := 0, hi := fun _ => 0, ru := 8, cs := fun _ => [.n 4 x] }), (11, wO 0)]) (fb := 0) (rd := false) (c := (loopB Try.f10 0)) (k := 5) (I := lcI ns (i : Int)) (sk := [5, 6, 7]) (hk := [0]) (lk := []) (ex := .normal)
    (L := lcI ns (IntKind.i64.wrap ((i : Int) + 1))) (by kernel_rfl)
    (And.intro (show x < 115792089237316195423570985008687907853269984665640564039457584007913129639936 ∧ x < 52435875175126190479447740508185965837690552500527637822603658699938581184513 from ⟨hb x (get_mem hx), hr⟩)
    (And.intro (num_at ns i x hx)
    (And.intro (show (i : Int) = ((i : Nat) : Int) ∧ i < ns.length from ⟨rfl, hi⟩) (And.intro (show decide ((i : Int) < ((ns.length : Nat) : Int)) = true from decide_eq_true (by omega)) trivial))))
  rw [show IntKind.i64.wrap ((i : Int) + 1) = ((i + 1 : Nat) : Int) by rw [wrap_i64]; omega] at hs
  exact hs
theorem lc_end (ns : List Nat) : Sound Try.prog 0 false (loopB Try.f10 0) (lcI ns ((ns.length : Nat) : Int)).aa (.exit 0) (lcE ns).aa :=
  roundK_sound (P := Try.prog) (X := rulesY _) (env := []) trivial (n := 0) (os := oL [(5, wF)]) (fb := 0) (rd := false) (c := (loopB Try.f10 0)) (k := 5) (I := lcI ns ((ns.length : Nat) : Int)) (sk := []) (hk := [0]) (lk := []) (ex := .exit 0)
    (L := lcE ns) (by kernel_rfl) (And.intro (show decide (((ns.length : Nat) : Int) < ((ns.length : Nat) : Int)) = false from decide_eq_false (by omega)) trivial)
theorem lc_ret (ns : List Nat) (i x : Nat) (hx : ns[i]? = some x) (hb : sm4 ns) (hr : ¬ x < Rr) : Sound Try.prog 0 false (loopB Try.f10 0) (lcI ns (i : Int)).aa .ret (lcF ns).aa := by
  have hi := get_lt hx
  exact roundK_sound (P := Try.prog) (X := rulesY _) (env := [eFRightS]) ⟨eFRightS_ok, trivial⟩ (n := 0) (os := oL [(5, wT), (6, rO 14 i), (7, { ch := 0, hi := fun _ => 0, ru := 8, cs := fun _ => [.n 4 x] }), (11, wO 1)]) (fb := 0) (rd := false) (c := (loopB Try.f10 0)) (k := 5) (I := lcI ns (i : Int)) (sk := [2]) (hk := [0]) (lk := []) (ex := .ret)
    (L := lcF ns) (by kernel_rfl)
    (And.intro (show x < 115792089237316195423570985008687907853269984665640564039457584007913129639936 ∧ 52435875175126190479447740508185965837690552500527637822603658699938581184513 ≤ x from ⟨hb x (get_mem hx), Nat.le_of_not_lt hr⟩)
    (And.intro (num_at ns i x hx)
    (And.intro (show (i : Int) = ((i : Nat) : Int) ∧ i < ns.length from ⟨rfl, hi⟩) (And.intro (show decide ((i : Int) < ((ns.length : Nat) : Int)) = true from decide_eq_true (by omega)) trivial))))
theorem lc_all (ns : List Nat) (hm : ns.length ≤ 1000000) (hb : sm4 ns) (hc : cleanN ns) : Sound Try.prog 0 false (.loop (loopB Try.f10 0)) (lcI ns 0).aa (.exit 0) (lcE ns).aa := by
  refine loop_ok (m := fun y : { i : Nat // i ≤ ns.length } => ns.length - y.val) (fun y => lcI ns (y.val : Int)) (by simp) (fun y => ?_) ⟨0, by omega⟩
  obtain ⟨i, hi⟩ := y
  by_cases e : i < ns.length
  · obtain ⟨x, hx⟩ := get_of e
    exact .inl ⟨⟨i + 1, e⟩, by show ns.length - (i + 1) < ns.length - i; omega, lc_round ns i x hx hm hb (hc x (get_mem hx))⟩
  · have e : i = ns.length := by omega
    subst e
    exact .inr (lc_end ns)
theorem lc_no (ns : List Nat) (hm : ns.length ≤ 1000000) (hb : sm4 ns) (j x : Nat) (hj : ns[j]? = some x) (hx : ¬ x < Rr) (hp : ∀ i y, i < j → ns[i]? = some y → y < Rr) : Sound Try.prog 0 false (.loop (loopB Try.f10 0)) (lcI ns 0).aa .ret (lcF ns).aa := by
  refine loop_ok (m := fun y : { i : Nat // i ≤ j } => j - y.val) (fun y => lcI ns (y.val : Int)) (by simp) (fun y => ?_) ⟨0, by omega⟩
  obtain ⟨i, hi⟩ := y
  by_cases e : i < j
  · obtain ⟨y, hy⟩ := get_of (show i < ns.length by have := get_lt hj; omega)
    exact .inl ⟨⟨i + 1, by omega⟩, by show j - (i + 1) < j - i; omega, lc_round ns i y hy hm hb (hp i y e hy)⟩
  · have e : i = j := by omega
    subst e
    exact .inr (lc_ret ns i x hj hb hx)
theorem lclean_yes (ns : List Nat) (hm : ns.length ≤ 1000000) (hb : sm4 ns) (hc : cleanN ns) : Gives Try.prog 10 [.rz [.l (numC 4 ns)] ns.length] (.v (.bool true)) :=
  fn_gives_at (P := Try.prog) (X := rulesY _) (env := []) trivial Try.func10 0 (oL [(5, lpO { I := lcI ns 0, ex := .exit 0, E := lcE ns, fr := 6 })]) (by kernel_rfl) ⟨_, rfl⟩
    (And.intro (show some (lcI ns 0) = some (lcI ns 0) from rfl) (And.intro (lc_all ns hm hb hc) trivial))
theorem lclean_no (ns : List Nat) (hm : ns.length ≤ 1000000) (hb : sm4 ns) (hc : ¬ cleanN ns) : Gives Try.prog 10 [.rz [.l (numC 4 ns)] ns.length] (.v (.bool false)) := by
  rcases first_bad ns with h | ⟨j, x, h1, h2, h3⟩
  · exact absurd h hc
  · exact fn_gives_at (P := Try.prog) (X := rulesY _) (env := []) trivial Try.func10 0 (oL [(5, lpO { I := lcI ns 0, ex := .ret, E := lcF ns, fr := 6 })]) (by kernel_rfl) ⟨_, rfl⟩
      (And.intro (show some (lcI ns 0) = some (lcI ns 0) from rfl) (And.intro (lc_no ns hm hb j x h1 h2 h3) trivial))
def eLClean : Entry := entry1 10 parNs (fun ns => [(some (ns.length ≤ 1000000 ∧ sm4 ns ∧ cleanN ns), .v (.bool true)), (some (ns.length ≤ 1000000 ∧ sm4 ns ∧ ¬ cleanN ns), .v (.bool false))])
theorem eLClean_ok : eLClean.OK Try.prog := entry1_ok (fun args w => Go.Proofs.enters_of (P := Try.prog) Try.func10 (by kernel_rfl) rfl args w) (fun ns c r hm hc => by
  simp only [List.mem_cons, Prod.mk.injEq, List.not_mem_nil, or_false] at hm
  rcases hm with ⟨rfl, rfl⟩ | ⟨rfl, rfl⟩
  · exact lclean_yes ns hc.1 hc.2.1 hc.2.2
  · exact lclean_no ns hc.1 hc.2.1 hc.2.2)
/-! chirographlaw23.numbers -/
def putN (n : Nat) : List UInt8 := beL 32 (eltS (.inr n)).val
def numB (ns : List Nat) : List UInt8 := ns.flatMap putN
theorem putN_length (n : Nat) : (putN n).length = 32 := beL_length _ _
theorem numB_length (ns : List Nat) : (numB ns).length = 32 * ns.length := by
  induction ns with
  | nil => rfl
  | cons n ns ih => simp only [numB, List.flatMap_cons, List.length_append, putN_length, List.length_cons] at ih ⊢; omega
theorem take_succ_of {ns : List Nat} {i x : Nat} (h : ns[i]? = some x) : ns.take (i + 1) = ns.take i ++ [x] := by
  rw [List.take_add_one, h]; rfl
theorem numB_succ {ns : List Nat} {i x : Nat} (h : ns[i]? = some x) : numB (ns.take (i + 1)) = numB (ns.take i) ++ putN x := by
  rw [take_succ_of h]; simp [numB]
def nbI (ns : List Nat) (b : List UInt8) (z : Int) : LState := { n := 18, sl := [(3, .v (.string (ofL b))), (6, .sz 0 ns.length), (7, .v (.int .i64 ((ns.length : Nat) : Int))), (8, .v (.int .i64 z))], hp := [(0, .rz [.l (numC 4 ns)])] }
def nbE (ns : List Nat) (b : List UInt8) : LState := { n := 18, sl := [(3, .v (.string (ofL b)))], hp := [(0, .rz [.l (numC 4 ns)])] }
theorem nb_round (ns : List Nat) (i x : Nat) (hx : ns[i]? = some x) (hm : ns.length ≤ 1000000) (hb : sm4 ns) : Sound Try.prog 0 false (loopB Try.f11 0) (nbI ns (numB (ns.take i)) (i : Int)).aa .normal (nbI ns (numB (ns.take (i + 1))) ((i + 1 : Nat) : Int)).aa := by
  have hi := get_lt hx
  have hs := roundK_sound (P := Try.prog) (X := rulesY _) (env := [eFPutS]) ⟨eFPutS_ok, trivial⟩ (n := 0) (os := oL [(6, wT), (7, rO 14 i), (8, { ch := 0, hi := fun _ => 0, ru := 8, cs := fun _ => [.n 4 x] }), (13, wO 0), (14, rO 6 0)]) (fb := 0) (rd := false) (c := (loopB Try.f11 0)) (k := 6) (I := nbI ns (numB (ns.take i)) (i : Int)) (sk := [3, 6, 7, 8]) (hk := [0]) (lk := []) (ex := .normal)
    (L := nbI ns (numB (ns.take i) ++ putN x) (IntKind.i64.wrap ((i : Int) + 1))) (by kernel_rfl)
    (And.intro (show (ofL (numB (ns.take i))).size + (ofL (putN x)).size ≤ 9223372036854775807 from by
      show (numB (ns.take i)).length + (putN x).length ≤ _
      rw [numB_length, putN_length, List.length_take]; omega)
    (And.intro (show smtS (.inr x) from hb x (get_mem hx))
    (And.intro (num_at ns i x hx)
    (And.intro (show (i : Int) = ((i : Nat) : Int) ∧ i < ns.length from ⟨rfl, hi⟩) (And.intro (show decide ((i : Int) < ((ns.length : Nat) : Int)) = true from decide_eq_true (by omega)) trivial)))))
  rw [show IntKind.i64.wrap ((i : Int) + 1) = ((i + 1 : Nat) : Int) by rw [wrap_i64]; omega, ← numB_succ hx] at hs
  exact hs
theorem nb_end (ns : List Nat) (b : List UInt8) : Sound Try.prog 0 false (loopB Try.f11 0) (nbI ns b ((ns.length : Nat) : Int)).aa (.exit 0) (nbE ns b).aa :=
  roundK_sound (P := Try.prog) (X := rulesY _) (env := []) trivial (n := 0) (os := oL [(6, wF)]) (fb := 0) (rd := false) (c := (loopB Try.f11 0)) (k := 6) (I := nbI ns b ((ns.length : Nat) : Int)) (sk := [3]) (hk := [0]) (lk := []) (ex := .exit 0)
    (L := nbE ns b) (by kernel_rfl) (And.intro (show decide (((ns.length : Nat) : Int) < ((ns.length : Nat) : Int)) = false from decide_eq_false (by omega)) trivial)
theorem nb_all (ns : List Nat) (hm : ns.length ≤ 1000000) (hb : sm4 ns) : Sound Try.prog 0 false (.loop (loopB Try.f11 0)) (nbI ns [] 0).aa (.exit 0) (nbE ns (numB ns)).aa := by
  refine loop_ok (m := fun y : { i : Nat // i ≤ ns.length } => ns.length - y.val) (fun y => nbI ns (numB (ns.take y.val)) (y.val : Int)) (by simp) (fun y => ?_) ⟨0, by omega⟩
  obtain ⟨i, hi⟩ := y
  by_cases e : i < ns.length
  · obtain ⟨x, hx⟩ := get_of e
    exact .inl ⟨⟨i + 1, e⟩, by show ns.length - (i + 1) < ns.length - i; omega, nb_round ns i x hx hm hb⟩
  · have e : i = ns.length := by omega
    subst e
    rw [List.take_length]
    exact .inr (nb_end ns _)
theorem lnum (ns : List Nat) (hm : ns.length ≤ 1000000) (hb : sm4 ns) : Gives Try.prog 11 [.rz [.l (numC 4 ns)] ns.length] (.v (.string (ofL (numB ns)))) :=
  fn_gives_at (P := Try.prog) (X := rulesY _) (env := []) trivial Try.func11 0 (oL [(6, lpO { I := nbI ns [] 0, ex := .exit 0, E := nbE ns (numB ns), fr := 7 })]) (by kernel_rfl) ⟨_, rfl⟩
    (And.intro (show some (nbI ns [] 0) = some (nbI ns [] 0) from rfl) (And.intro (nb_all ns hm hb) trivial))
def eLNum : Entry := entry1 11 parNs (fun ns => [(some (ns.length ≤ 1000000 ∧ sm4 ns), .v (.string (ofL (numB ns))))])
theorem eLNum_ok : eLNum.OK Try.prog := entry1_ok (fun args w => Go.Proofs.enters_of (P := Try.prog) Try.func11 (by kernel_rfl) rfl args w) (fun ns => onlyIf (fun h => lnum ns h.1 h.2))
/-! counts -/
def b4 (k : IntKind) (n : Int) : List UInt8 := [UInt8.ofNat (IntKind.u8.wrap (n.fdiv (2 ^ min 24 k.bits))).toNat, UInt8.ofNat (IntKind.u8.wrap (n.fdiv (2 ^ min 16 k.bits))).toNat, UInt8.ofNat (IntKind.u8.wrap (n.fdiv (2 ^ min 8 k.bits))).toNat, UInt8.ofNat (IntKind.u8.wrap n).toNat]
def eFCnt : Entry := entry1 29 (XPar.int .u32) (fun n => [(none, .v (.string (ofL (b4 .u32 n))))])
theorem eFCnt_ok : eFCnt.OK Try.prog := entry1_ok (fun args w => Go.Proofs.enters_of (P := Try.prog) Try.func29 (by kernel_rfl) rfl args w) (fun n => only (fn_gives (P := Try.prog) (env := []) trivial Try.func29 0 o0 (by kernel_rfl) trivial))
def eLCnt : Entry := entry1 8 (XPar.int .i64) (fun n => [(none, .v (.string (ofL (b4 .i64 n))))])
theorem eLCnt_ok : eLCnt.OK Try.prog := entry1_ok (fun args w => Go.Proofs.enters_of (P := Try.prog) Try.func8 (by kernel_rfl) rfl args w) (fun n => only (fn_gives (P := Try.prog) (env := []) trivial Try.func8 0 o0 (by kernel_rfl) trivial))
theorem wrap_u32' (n : Int) : IntKind.u32.wrap n = n % 4294967296 := rfl
theorem wrap_u8' (n : Int) : IntKind.u8.wrap n = n % 256 := rfl
theorem b4_u32 (n : Int) : b4 .u32 (IntKind.u32.wrap n) = b4 .i64 n := by
  have e : ∀ k : Nat, (2 : Int) ^ min k IntKind.u32.bits = 2 ^ min k 32 := fun k => rfl
  have e' : ∀ k : Nat, (2 : Int) ^ min k IntKind.i64.bits = 2 ^ min k 64 := fun k => rfl
  simp only [b4, wrap_u32', wrap_u8', e, e', show min 24 32 = 24 from rfl, show min 16 32 = 16 from rfl, show min 8 32 = 8 from rfl, show min 24 64 = 24 from rfl, show min 16 64 = 16 from rfl, show min 8 64 = 8 from rfl,
    show (2 : Int) ^ 24 = 16777216 from rfl, show (2 : Int) ^ 16 = 65536 from rfl, show (2 : Int) ^ 8 = 256 from rfl]
  have f1 : ∀ a : Int, a.fdiv 16777216 = a / 16777216 := fun a => Int.fdiv_eq_ediv_of_nonneg _ (by decide)
  have f2 : ∀ a : Int, a.fdiv 65536 = a / 65536 := fun a => Int.fdiv_eq_ediv_of_nonneg _ (by decide)
  have f3 : ∀ a : Int, a.fdiv 256 = a / 256 := fun a => Int.fdiv_eq_ediv_of_nonneg _ (by decide)
  simp only [f1, f2, f3]
  rw [show n % 4294967296 / 16777216 % 256 = n / 16777216 % 256 by omega, show n % 4294967296 / 65536 % 256 = n / 65536 % 256 by omega, show n % 4294967296 / 256 % 256 = n / 256 % 256 by omega, show n % 4294967296 % 256 = n % 256 by omega]
theorem b4_length (k : IntKind) (n : Int) : (b4 k n).length = 4 := rfl
end Go.Proofs.Ytmbllhibdbeplaa
