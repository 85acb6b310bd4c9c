/- Pruned: Gg. -/
import Derived.Test.YtmbllhibdbeplaaQGf
import Derived.Test.YtmbllhibdbeplaaQGc
import Derived.Test.YtmbllhibdbeplaaQGb
/- chirographlaw23.FormatCircuits: any circuit is written as just those bytes, or refused. -/
set_option linter.unusedSimpArgs false
set_option linter.unusedVariables false
namespace Go.Proofs.Ytmbllhibdbeplaa
open Go.Ev Go.RowKit
def eFAlive : Entry := entry0 12 [(none, .v (.bool true))]
theorem eFAlive_ok : eFAlive.OK Try.prog := entry0_ok (fun args w => Go.Proofs.enters_of (P := Try.prog) Try.func12 (by kernel_rfl) rfl args w) (only (fn_gives_at (P := Try.prog) (X := rulesY _) (env := [eFCnt]) ⟨eFCnt_ok, trivial⟩ Try.func12 8 (oL [(32, { ch := 0, hi := fun _ => 0, ex := 2, cs := fun _ => [.y [67, 72, 87, 49]] }), (96, wT)]) (by kernel_rfl) ⟨_, rfl⟩ (And.intro (show true = true from rfl) (And.intro (show flat [.y [67, 72, 87, 49]] = (ofL [67, 72, 87, 49]).data.toList.map byteV from flat_y _) trivial))))
def bd (l : List GT) : Int := if (∀ g, g ∈ l → cleanG g) then 0 else 1
end Go.Proofs.Ytmbllhibdbeplaa

/- Contracts of Put1 and Put2 in one alternative; of format.PutPublics, PutKey and chirographlaw23.points. -/
set_option linter.unusedSimpArgs false
set_option linter.unusedVariables false
namespace Go.Proofs.Ytmbllhibdbeplaa
open Go.Ev Go.RowKit
instance (a : A1) : Decidable (may1 a) := by unfold may1 is1; infer_instance
instance (a : A2) : Decidable (may2 a) := by unfold may2 is2; infer_instance
instance (a : A1) : Decidable (grp1 a) := by unfold grp1; infer_instance
instance (a : A2) : Decidable (grp2 a) := by unfold grp2; infer_instance
def p1E (a : A1) : Int := if may1 a then (if grp1 a then 0 else 31) else 30
def p1S (a : A1) : List UInt8 := if may1 a ∧ grp1 a then putL1 (ofP a.1) (ofP a.2.1) a.2.2 true else []
def p2E (a : A2) : Int := if may2 a then (if grp2 a then 0 else 31) else 30
def p2S (a : A2) : List UInt8 := if may2 a ∧ grp2 a then putL2 (of2 a.1) (of2 a.2.1) a.2.2 true else []
theorem p1S_le (a : A1) : (p1S a).length ≤ 48 := by
  unfold p1S
  split
  · rw [put1_length]; exact Nat.le_refl _
  · exact Nat.zero_le _
theorem p2S_le (a : A2) : (p2S a).length ≤ 96 := by
  unfold p2S
  split
  · rw [put2_length]; exact Nat.le_refl _
  · exact Nat.zero_le _
def ePut1T : Entry := entry1 34 parA1.x (fun a => [(some (sml1 a), .tp [.v (.string (ofL (p1S a))), .v (.int .i64 (p1E a))])])
theorem ePut1T_ok : ePut1T.OK Try.prog := entry1_ok (fun args w => Go.Proofs.enters_of (P := Try.prog) Try.func34 (by kernel_rfl) rfl args w) (fun a => onlyIf (fun h => by
  unfold p1S p1E
  by_cases h1 : may1 a
  · by_cases h2 : grp1 a
    · rw [if_pos ⟨h1, h2⟩, if_pos h1, if_pos h2]; exact Put1_ok a h h1 h2
    · rw [if_neg (fun e => h2 e.2), if_pos h1, if_neg h2]; exact Put1_no2 a h h1 h2
  · rw [if_neg (fun e => h1 e.1), if_neg h1]; exact Put1_no1 a h h1))
def ePut2T : Entry := entry1 17 parA2.x (fun a => [(some (sml2 a), .tp [.v (.string (ofL (p2S a))), .v (.int .i64 (p2E a))])])
theorem ePut2T_ok : ePut2T.OK Try.prog := entry1_ok (fun args w => Go.Proofs.enters_of (P := Try.prog) Try.func17 (by kernel_rfl) rfl args w) (fun a => onlyIf (fun h => by
  unfold p2S p2E
  by_cases h1 : may2 a
  · by_cases h2 : grp2 a
    · rw [if_pos ⟨h1, h2⟩, if_pos h1, if_pos h2]; exact Put2_ok a h h1 h2
    · rw [if_neg (fun e => h2 e.2), if_pos h1, if_neg h2]; exact Put2_no2 a h h1 h2
  · rw [if_neg (fun e => h1 e.1), if_neg h1]; exact Put2_no1 a h h1))
/-! format.PutPublics -/
def mgW : List UInt8 := [67, 72, 87, 49]
def pubB (ns : List Nat) (i : Nat) : List UInt8 := (mgW ++ b4 .i64 (ns.length : Nat)) ++ numB (ns.take i)
theorem pubB_length (ns : List Nat) (i : Nat) : (pubB ns i).length ≤ 8 + 32 * ns.length := by
  unfold pubB
  have h1 : mgW.length = 4 := rfl
  simp only [List.length_append, b4_length, numB_length, List.length_take]
  omega
theorem pubB_succ {ns : List Nat} {i x : Nat} (h : ns[i]? = some x) : pubB ns (i + 1) = pubB ns i ++ putN x := by
  unfold pubB; rw [numB_succ h]; simp
theorem pubB_zero (ns : List Nat) : pubB ns 0 = mgW ++ b4 .u32 (IntKind.u32.wrap (ns.length : Nat)) := by
  unfold pubB; rw [b4_u32]; simp [numB]
def ppI (ns : List Nat) (out : List UInt8) (z : Int) : LState := { n := 37, sl := [(4, .p 16 0), (22, .sz 0 ns.length), (23, .v (.int .i64 ((ns.length : Nat) : Int))), (24, .v (.int .i64 z))], hp := [(0, .rz [.l (numC 4 ns)]), (16, .own [.sx 41 out.length, .c (.int .i64 0)] 128), (41, .gr [.y out] 5 1)] }
def ppJ (ns : List Nat) : LState := { n := 37, sl := [(4, .p 16 0), (22, .sz 0 ns.length), (23, .v (.int .i64 ((ns.length : Nat) : Int))), (24, .v (.int .i64 0))], hp := [(0, .rz [.l (numC 4 ns)]), (16, .own [.sx 41 (4 + (ofL (b4 .u32 (IntKind.u32.wrap (ns.length : Nat)))).size), .c (.int .i64 0)] 128), (41, .gr [.y mgW, .y (b4 .u32 (IntKind.u32.wrap (ns.length : Nat)))] 5 1)] }
def ppE (out : List UInt8) : LState := { n := 37, sl := [(4, .p 16 0)], hp := [(16, .own [.sx 41 out.length, .c (.int .i64 0)] 128), (41, .gr [.y out] 5 1)] }
theorem pp_pre (ns : List Nat) : fitsP (ppJ ns).aa (ppI ns (pubB ns 0) ((0 : Nat) : Int)) [] := by
  have e : fitsP (ppJ ns).aa (ppI ns (pubB ns 0) ((0 : Nat) : Int)) [] = (((true = true ∧ 0 = 0) ∧ (true = true ∧ ns.length = ns.length) ∧ (Value.int .i64 ((ns.length : Nat) : Int)) = (Value.int .i64 ((ns.length : Nat) : Int)) ∧ (Value.int .i64 0) = (Value.int .i64 ((0 : Nat) : Int)) ∧ True) ∧ (flat [.l (numC 4 ns)] = flat [.l (numC 4 ns)] ∧ (128 = 128 ∧ (true = true ∧ 4 + (ofL (b4 .u32 (IntKind.u32.wrap (ns.length : Nat)))).size = (pubB ns 0).length) ∧ (true = true ∧ true = true ∧ [Value.int .i64 0] = [Value.int .i64 0]) ∧ True) ∧ ((5 = 5 ∧ 1 = 1) ∧ flat [.y mgW, .y (b4 .u32 (IntKind.u32.wrap (ns.length : Nat)))] = flat [.y (pubB ns 0)]) ∧ True)) := by kernel_rfl
  rw [e]
  exact ⟨⟨⟨rfl, rfl⟩, ⟨rfl, rfl⟩, rfl, rfl, trivial⟩, ⟨rfl, ⟨rfl, ⟨rfl, by rw [pubB_zero]; rfl⟩, ⟨rfl, rfl, rfl⟩, trivial⟩, ⟨⟨rfl, rfl⟩, by rw [pubB_zero, flat_y]; simp [flat, Ch.cells]⟩, trivial⟩⟩
theorem pp_round (ns : List Nat) (hm : ns.length ≤ 1000000) (i x : Nat) (hx : ns[i]? = some x) (hb : sm4 ns) : Sound Try.prog 0 false (loopB Try.f14 0) (ppI ns (pubB ns i) (i : Int)).aa .normal (ppI ns (pubB ns (i + 1)) ((i + 1 : Nat) : Int)).aa := by
  have hi := get_lt hx
  exact roundP_sound (P := Try.prog) (X := rulesY _) (env := [eFPutS, eFCnt]) ⟨eFPutS_ok, eFCnt_ok, trivial⟩ (n := 1) (os := oL [(48, wT), (49, rO 14 i), (50, { ch := 0, hi := fun _ => 0, ru := 8, cs := fun _ => [.n 4 x] }), (73, { ch := 0, hi := fun _ => 0, ex := 1 })]) (fb := 0) (rd := false) (c := (loopB Try.f14 0)) (k := 48) (I := ppI ns (pubB ns i) (i : Int)) (J := ppI ns (pubB ns (i + 1)) ((i + 1 : Nat) : Int)) (τ := [(41, 73)]) (ex := .normal) (by kernel_rfl)
    (And.intro (show ((true = true ∧ 0 = 0) ∧ (true = true ∧ ns.length = ns.length) ∧ (Value.int .i64 ((ns.length : Nat) : Int)) = (Value.int .i64 ((ns.length : Nat) : Int)) ∧ (Value.int .i64 (IntKind.i64.wrap ((i : Int) + 1))) = (Value.int .i64 ((i + 1 : Nat) : Int)) ∧ True) ∧ (flat [.l (numC 4 ns)] = flat [.l (numC 4 ns)] ∧ (128 = 128 ∧ (true = true ∧ (pubB ns i).length + (ofL (putN x)).size = (pubB ns (i + 1)).length) ∧ (true = true ∧ true = true ∧ [Value.int .i64 0] = [Value.int .i64 0]) ∧ True) ∧ ((5 = 5 ∧ 1 = 1) ∧ flat [.y (pubB ns i), .y (putN x)] = flat [.y (pubB ns (i + 1))]) ∧ True) from ⟨⟨⟨rfl, rfl⟩, ⟨rfl, rfl⟩, rfl, by rw [show IntKind.i64.wrap ((i : Int) + 1) = ((i + 1 : Nat) : Int) by rw [wrap_i64]; omega], trivial⟩, ⟨rfl, ⟨rfl, ⟨rfl, by rw [pubB_succ hx, List.length_append]; rfl⟩, ⟨rfl, rfl, rfl⟩, trivial⟩, ⟨⟨rfl, rfl⟩, by rw [pubB_succ hx, flat_y]; simp [flat, Ch.cells]⟩, trivial⟩⟩)
      (And.intro (show sizes [.y (pubB ns i)] = ((pubB ns i).length) * 1 ∧ (pubB ns i).length + (ofL (putN x)).size ≤ 9223372036854775807 ∧ ((pubB ns i).length + (ofL (putN x)).size) * 1 ≤ 140737488355328 ∧ True from by
        have h1 := pubB_length ns i
        have h2 : (ofL (putN x)).size = 32 := putN_length x
        refine ⟨?_, ?_, ?_, trivial⟩ <;> (try simp only [sizes, Ch.size]) <;> omega)
      (And.intro (show smtS (.inr x) from hb x (get_mem hx))
      (And.intro (num_at ns i x hx)
      (And.intro (show (i : Int) = ((i : Nat) : Int) ∧ i < ns.length from ⟨rfl, hi⟩)
      (And.intro (show decide ((i : Int) < ((ns.length : Nat) : Int)) = true from decide_eq_true (by omega)) trivial))))))
theorem pp_end (ns : List Nat) (out : List UInt8) : Sound Try.prog 0 false (loopB Try.f14 0) (ppI ns out ((ns.length : Nat) : Int)).aa (.exit 0) (ppE out).aa :=
  roundK_sound (P := Try.prog) (X := rulesY _) (env := []) trivial (n := 0) (os := oL [(48, wF)]) (fb := 0) (rd := false) (c := (loopB Try.f14 0)) (k := 48) (I := ppI ns out ((ns.length : Nat) : Int)) (sk := [4]) (hk := [16, 41]) (lk := []) (ex := .exit 0)
    (L := ppE out) (by kernel_rfl) (And.intro (show decide (((ns.length : Nat) : Int) < ((ns.length : Nat) : Int)) = false from decide_eq_false (by omega)) trivial)
theorem pp_all (ns : List Nat) (hm : ns.length ≤ 1000000) (hb : sm4 ns) : Sound Try.prog 0 false (.loop (loopB Try.f14 0)) (ppI ns (pubB ns 0) ((0 : Nat) : Int)).aa (.exit 0) (ppE (pubB ns ns.length)).aa := by
  refine loop_ok (m := fun y : { i : Nat // i ≤ ns.length } => ns.length - y.val) (fun y => ppI ns (pubB ns y.val) (y.val : Int)) (by simp) (fun y => ?_) ⟨0, by omega⟩
  obtain ⟨i, hi⟩ := y
  by_cases e : i < ns.length
  · obtain ⟨x, hx⟩ := get_of e
    exact .inl ⟨⟨i + 1, e⟩, by show ns.length - (i + 1) < ns.length - i; omega, pp_round ns hm i x hx hb⟩
  · have e : i = ns.length := by omega
    subst e
    exact .inr (pp_end ns _)
theorem pub_long (ns : List Nat) (h : 64 < ns.length) : Gives Try.prog 14 [.rz [.l (numC 4 ns)] ns.length] (.tp [.v (.string (ofL [])), .v (.int .i64 1)]) :=
  fn_gives_at (P := Try.prog) (X := rulesY _) (env := [eFPutS, eFCnt]) ⟨eFPutS_ok, eFCnt_ok, trivial⟩ Try.func14 1 (oL [(5, wT)]) (by kernel_rfl) ⟨_, rfl⟩
    (And.intro (show decide (((ns.length : Nat) : Int) > 64) = true from decide_eq_true (by omega)) trivial)
theorem pub_un (ns : List Nat) (h : ns.length ≤ 64) (hb : sm4 ns) (hc : ¬ cleanN ns) : Gives Try.prog 14 [.rz [.l (numC 4 ns)] ns.length] (.tp [.v (.string (ofL [])), .v (.int .i64 1)]) :=
  fn_gives_at (P := Try.prog) (X := rulesY _) (env := [eFPutS, eFCnt]) ⟨eFPutS_ok, eFCnt_ok, trivial⟩ Try.func14 1 (oL [(5, wF), (8, { ch := 0, hi := fun _ => 0, ex := 7, av := fun _ => .v (.bool false) })]) (by kernel_rfl) ⟨_, rfl⟩
    (And.intro (show GivesE Try.prog 30 [.rz [.l (numC 4 ns)] ns.length] (.v (.bool false)) from ⟨fun vs w => Go.Proofs.enters_of (P := Try.prog) Try.func30 (by kernel_rfl) rfl vs w, fclean_no ns (by omega) hb hc⟩)
      (And.intro (show decide (((ns.length : Nat) : Int) > 64) = false from decide_eq_false (by omega)) trivial))
theorem pub_ok (ns : List Nat) (h : ns.length ≤ 64) (hb : sm4 ns) (hc : cleanN ns) : Gives Try.prog 14 [.rz [.l (numC 4 ns)] ns.length] (.tp [.v (.string (ofL (pubB ns ns.length))), .v (.int .i64 0)]) :=
  fn_gives_at (P := Try.prog) (X := rulesY _) (env := [eFPutS, eFCnt]) ⟨eFPutS_ok, eFCnt_ok, trivial⟩ Try.func14 1 (oL [(5, wF), (8, { ch := 0, hi := fun _ => 0, ex := 7, av := fun _ => .v (.bool true) }), (14, { ch := 0, hi := fun _ => 0, ex := 2, cs := fun _ => [.y mgW] }), (48, lpO { I := ppJ ns, ex := .exit 0, E := ppE (pubB ns ns.length), fr := 49 }), (62, { ch := 0, hi := fun _ => 0, ru := 10, av := fun _ => .v (.string (ofL (pubB ns ns.length))) })]) (by kernel_rfl) ⟨_, rfl⟩
    (And.intro (show (flat [.y (pubB ns ns.length)]).take (pubB ns ns.length).length = (ofL (pubB ns ns.length)).data.toList.map byteV ∧ (pubB ns ns.length).length = (ofL (pubB ns ns.length)).size from ⟨by rw [flat_y, List.take_of_length_le (by simp)]; rfl, rfl⟩)
      (And.intro (show some (ppJ ns) = some (ppJ ns) from rfl)
      (And.intro ((pp_all ns (by omega) hb).pre [] (by kernel_rfl) (pp_pre ns))
      (And.intro (show flat [.y mgW] = (ofL mgW).data.toList.map byteV from flat_y mgW)
      (And.intro (show GivesE Try.prog 30 [.rz [.l (numC 4 ns)] ns.length] (.v (.bool true)) from ⟨fun vs w => Go.Proofs.enters_of (P := Try.prog) Try.func30 (by kernel_rfl) rfl vs w, fclean_yes ns (by omega) hb hc⟩)
      (And.intro (show decide (((ns.length : Nat) : Int) > 64) = false from decide_eq_false (by omega)) trivial))))))
/-! points -/
def ptP (a : A1) : List Ch := [.n 6 a.1, .n 6 a.2.1, .c (.bool a.2.2)]
def ptC (a : A1) : List Value := flat (ptP a)
theorem ptC_length (a : A1) : (ptC a).length = 13 := by unfold ptC ptP; simp [flat, Ch.cells, limbs_length]
def ptsC (ps : List A1) : List Value := ps.flatMap ptC
theorem pt_at (ps : List A1) (i : Nat) (a : A1) (h : ps[i]? = some a) : sizes (ptP a) = 13 ∧ ((flat [.l (ptsC ps)]).drop (i * 13)).take 13 = flat (ptP a) := by
  refine ⟨rfl, ?_⟩
  rw [flat_l]
  exact rows_at ptC ptC_length ps i a h
theorem plt {ps : List A1} {i : Nat} {x : A1} (h : ps[i]? = some x) : i < ps.length := (List.getElem?_eq_some_iff.1 h).1
theorem pmem {ps : List A1} {i : Nat} {x : A1} (h : ps[i]? = some x) : x ∈ ps := List.mem_of_getElem? h
theorem pof {ps : List A1} {i : Nat} (h : i < ps.length) : ∃ x, ps[i]? = some x := ⟨_, List.getElem?_eq_getElem h⟩
def ptsB (ps : List A1) : List UInt8 := ps.flatMap p1S
def smP1 (ps : List A1) : Prop := ∀ a, a ∈ ps → sml1 a
theorem ptsB_length (ps : List A1) : (ptsB ps).length ≤ 48 * ps.length := by
  induction ps with
  | nil => exact Nat.le_refl _
  | cons a ps ih => have := p1S_le a; simp only [ptsB, List.flatMap_cons, List.length_append, List.length_cons] at ih ⊢; omega
theorem ptsB_succ {ps : List A1} {i : Nat} {a : A1} (h : ps[i]? = some a) : ptsB (ps.take (i + 1)) = ptsB (ps.take i) ++ p1S a := by
  rw [List.take_add_one, h]; simp [ptsB]
/-- The first error among points. -/
def ptE : List A1 → Int
  | [] => 0
  | a :: l => if p1E a = 0 then ptE l else p1E a
theorem ptE_append : ∀ (l : List A1) (a : A1), ptE (l ++ [a]) = if ptE l = 0 then p1E a else ptE l
  | [], a => by simp only [List.nil_append, ptE]; by_cases h : p1E a = 0 <;> simp [h]
  | b :: l, a => by
    simp only [List.cons_append, ptE]
    by_cases h : p1E b = 0
    · simp only [h, if_true]; exact ptE_append l a
    · simp only [h, if_false]
theorem ptE_succ {ps : List A1} {i : Nat} {a : A1} (h : ps[i]? = some a) : ptE (ps.take (i + 1)) = if ptE (ps.take i) = 0 then p1E a else ptE (ps.take i) := by
  rw [List.take_add_one, h]; exact ptE_append _ a
theorem pts_first : ∀ ps : List A1, (ptE ps = 0 ∧ ∀ a, a ∈ ps → p1E a = 0) ∨ ∃ (j : Nat) (a : A1), ps[j]? = some a ∧ p1E a ≠ 0 ∧ ptE ps = p1E a ∧ ∀ (i : Nat) (y : A1), i < j → ps[i]? = some y → p1E y = 0
  | [] => .inl ⟨rfl, fun x hx => by cases hx⟩
  | n :: ns => by
    by_cases h : p1E n = 0
    · rcases pts_first ns with ⟨h0, h1⟩ | ⟨j, x, h1, h2, h4, h3⟩
      · exact .inl ⟨by simp only [ptE, h, if_true]; exact h0, fun x hx => by rcases List.mem_cons.1 hx with rfl | hx; exact h; exact h1 x hx⟩
      · refine .inr ⟨j + 1, x, h1, h2, by simp only [ptE, h, if_true]; exact h4, fun i y hi hy => ?_⟩
        match i, hy with
        | 0, hy => simp only [List.getElem?_cons_zero, Option.some.injEq] at hy; subst hy; exact h
        | i + 1, hy => exact h3 i y (by omega) (by simpa using hy)
    · exact .inr ⟨0, n, rfl, h, by simp only [ptE, h, if_false], fun i y hi => by omega⟩
def poI (ps : List A1) (b : List UInt8) (z : Int) : LState := { n := 28, sl := [(4, .v (.string (ofL b))), (9, .sz 0 ps.length), (10, .v (.int .i64 ((ps.length : Nat) : Int))), (11, .v (.int .i64 z))], hp := [(0, .rz [.l (ptsC ps)])] }
def poE (b : List UInt8) : LState := { n := 28, sl := [(4, .v (.string (ofL b)))], hp := [] }
def poF (e : Int) : LState := { n := 28, sl := [(2, .v (.string (ofL []))), (3, .v (.int .i64 e))], hp := [] }
theorem po_round (ps : List A1) (hm : ps.length ≤ 9223372036854775807) (hn : ps.length ≤ 1000000) (hs : smP1 ps) (i : Nat) (a : A1) (ha : ps[i]? = some a) (h0 : p1E a = 0) : Sound Try.prog 0 false (loopB Try.f16 0) (poI ps (ptsB (ps.take i)) (i : Int)).aa .normal (poI ps (ptsB (ps.take (i + 1))) ((i + 1 : Nat) : Int)).aa := by
  have hi := plt ha
  have hs := roundK_sound (P := Try.prog) (X := rulesY _) (env := [ePut1T]) ⟨ePut1T_ok, trivial⟩ (n := 0) (os := oL [(7, wT), (8, rO 14 i), (9, { ch := 0, hi := fun _ => 0, ru := 8, cs := fun _ => ptP a }), (13, wO 0), (20, wF), (23, rO 6 0)]) (fb := 0) (rd := false) (c := (loopB Try.f16 0)) (k := 7) (I := poI ps (ptsB (ps.take i)) (i : Int)) (sk := [4, 9, 10, 11]) (hk := [0]) (lk := []) (ex := .normal)
    (L := poI ps (ptsB (ps.take i) ++ p1S a) (IntKind.i64.wrap ((i : Int) + 1))) (by kernel_rfl)
    (And.intro (show (ofL (ptsB (ps.take i))).size + (ofL (p1S a)).size ≤ 9223372036854775807 from by
        have h1 := ptsB_length (ps.take i)
        have h2 := p1S_le a
        have h3 := List.length_take_le i ps
        show (ptsB (ps.take i)).length + (p1S a).length ≤ _
        omega)
      (And.intro (show (p1E a != 0) = false from by rw [h0]; rfl)
      (And.intro (show sml1 a from hs a (pmem ha))
      (And.intro (pt_at ps i a ha)
      (And.intro (show (i : Int) = ((i : Nat) : Int) ∧ i < ps.length from ⟨rfl, hi⟩)
      (And.intro (show decide ((i : Int) < ((ps.length : Nat) : Int)) = true from decide_eq_true (by omega)) trivial))))))
  rw [show IntKind.i64.wrap ((i : Int) + 1) = ((i + 1 : Nat) : Int) by rw [wrap_i64]; omega, ← ptsB_succ ha] at hs
  exact hs
theorem po_bad (ps : List A1) (hm : ps.length ≤ 9223372036854775807) (hs : smP1 ps) (b : List UInt8) (i : Nat) (a : A1) (ha : ps[i]? = some a) (h0 : p1E a ≠ 0) : Sound Try.prog 0 false (loopB Try.f16 0) (poI ps b (i : Int)).aa .ret (poF (p1E a)).aa := by
  have hi := plt ha
  exact roundK_sound (P := Try.prog) (X := rulesY _) (env := [ePut1T]) ⟨ePut1T_ok, trivial⟩ (n := 0) (os := oL [(7, wT), (8, rO 14 i), (9, { ch := 0, hi := fun _ => 0, ru := 8, cs := fun _ => ptP a }), (13, wO 0), (20, wT)]) (fb := 0) (rd := false) (c := (loopB Try.f16 0)) (k := 7) (I := poI ps b (i : Int)) (sk := [2, 3]) (hk := []) (lk := []) (ex := .ret)
    (L := poF (p1E a)) (by kernel_rfl)
    (And.intro (show (p1E a != 0) = true from by simpa using h0)
      (And.intro (show sml1 a from hs a (pmem ha))
      (And.intro (pt_at ps i a ha)
      (And.intro (show (i : Int) = ((i : Nat) : Int) ∧ i < ps.length from ⟨rfl, hi⟩)
      (And.intro (show decide ((i : Int) < ((ps.length : Nat) : Int)) = true from decide_eq_true (by omega)) trivial)))))
theorem po_end (ps : List A1) (b : List UInt8) : Sound Try.prog 0 false (loopB Try.f16 0) (poI ps b ((ps.length : Nat) : Int)).aa (.exit 0) (poE b).aa :=
  roundK_sound (P := Try.prog) (X := rulesY _) (env := []) trivial (n := 0) (os := oL [(7, wF)]) (fb := 0) (rd := false) (c := (loopB Try.f16 0)) (k := 7) (I := poI ps b ((ps.length : Nat) : Int)) (sk := [4]) (hk := []) (lk := []) (ex := .exit 0)
    (L := poE b) (by kernel_rfl) (And.intro (show decide (((ps.length : Nat) : Int) < ((ps.length : Nat) : Int)) = false from decide_eq_false (by omega)) trivial)
theorem po_all (ps : List A1) (hn : ps.length ≤ 1000000) (hs : smP1 ps) (hc : ∀ a, a ∈ ps → p1E a = 0) : Sound Try.prog 0 false (.loop (loopB Try.f16 0)) (poI ps [] 0).aa (.exit 0) (poE (ptsB ps)).aa := by
  refine loop_ok (m := fun y : { i : Nat // i ≤ ps.length } => ps.length - y.val) (fun y => poI ps (ptsB (ps.take y.val)) (y.val : Int)) (by simp) (fun y => ?_) ⟨0, by omega⟩
  obtain ⟨i, hi⟩ := y
  by_cases e : i < ps.length
  · obtain ⟨x, hx⟩ := pof e
    exact .inl ⟨⟨i + 1, e⟩, by show ps.length - (i + 1) < ps.length - i; omega, po_round ps (by omega) hn hs i x hx (hc x (pmem hx))⟩
  · have e : i = ps.length := by omega
    subst e
    rw [List.take_length]
    exact .inr (po_end ps _)
theorem po_no (ps : List A1) (hn : ps.length ≤ 1000000) (hs : smP1 ps) (j : Nat) (x : A1) (hj : ps[j]? = some x) (hx : p1E x ≠ 0) (hp : ∀ (i : Nat) (y : A1), i < j → ps[i]? = some y → p1E y = 0) : Sound Try.prog 0 false (.loop (loopB Try.f16 0)) (poI ps [] 0).aa .ret (poF (p1E x)).aa := by
  refine loop_ok (m := fun y : { i : Nat // i ≤ j } => j - y.val) (fun y => poI ps (ptsB (ps.take y.val)) (y.val : Int)) (by simp) (fun y => ?_) ⟨0, by omega⟩
  obtain ⟨i, hi⟩ := y
  by_cases e : i < j
  · obtain ⟨g, hg⟩ := pof (show i < ps.length by have := plt hj; omega)
    exact .inl ⟨⟨i + 1, by omega⟩, by show j - (i + 1) < j - i; omega, po_round ps (by omega) hn hs i g hg (hp i g e hg)⟩
  · have e : i = j := by omega
    subst e
    exact .inr (po_bad ps (by omega) hs _ i x hj hx)
theorem pts_yes (ps : List A1) (hn : ps.length ≤ 1000000) (hs : smP1 ps) (hc : ptE ps = 0) : Gives Try.prog 16 [.rz [.l (ptsC ps)] ps.length] (.tp [.v (.string (ofL (ptsB ps))), .v (.int .i64 0)]) := by
  rcases pts_first ps with ⟨_, h⟩ | ⟨j, x, h1, h2, h4, h3⟩
  · exact fn_gives_at (P := Try.prog) (X := rulesY _) (env := []) trivial Try.func16 0 (oL [(7, lpO { I := poI ps [] 0, ex := .exit 0, E := poE (ptsB ps), fr := 8 })]) (by kernel_rfl) ⟨_, rfl⟩
      (And.intro (show some (poI ps [] 0) = some (poI ps [] 0) from rfl) (And.intro (po_all ps hn hs h) trivial))
  · exact absurd (h4.symm.trans hc) h2
theorem pts_no (ps : List A1) (hn : ps.length ≤ 1000000) (hs : smP1 ps) (hc : ptE ps ≠ 0) : Gives Try.prog 16 [.rz [.l (ptsC ps)] ps.length] (.tp [.v (.string (ofL [])), .v (.int .i64 (ptE ps))]) := by
  rcases pts_first ps with ⟨h, _⟩ | ⟨j, x, h1, h2, h4, h3⟩
  · exact absurd h hc
  · rw [h4]
    exact fn_gives_at (P := Try.prog) (X := rulesY _) (env := []) trivial Try.func16 0 (oL [(7, lpO { I := poI ps [] 0, ex := .ret, E := poF (p1E x), fr := 8 })]) (by kernel_rfl) ⟨_, rfl⟩
      (And.intro (show some (poI ps [] 0) = some (poI ps [] 0) from rfl) (And.intro (po_no ps hn hs j x h1 h2 h3) trivial))
end Go.Proofs.Ytmbllhibdbeplaa

/- Contract of format.PutKey. -/
set_option linter.unusedSimpArgs false
set_option linter.unusedVariables false
namespace Go.Proofs.Ytmbllhibdbeplaa
open Go.Ev Go.RowKit
def mgK : List UInt8 := [67, 72, 75, 49]
def keyB (ps : List A1) (i : Nat) : List UInt8 := (mgK ++ b4 .i64 (ps.length : Nat)) ++ ptsB (ps.take i)
theorem keyB_length (ps : List A1) (i : Nat) : (keyB ps i).length ≤ 8 + 48 * ps.length := by
  unfold keyB
  have h1 : mgK.length = 4 := rfl
  have h2 := ptsB_length (ps.take i)
  have h3 := List.length_take_le i ps
  have h4 : (ps.take i).length ≤ ps.length := by rw [List.length_take]; omega
  simp only [List.length_append, b4_length]
  omega
theorem keyB_succ {ps : List A1} {i : Nat} {x : A1} (h : ps[i]? = some x) : keyB ps (i + 1) = keyB ps i ++ p1S x := by
  unfold keyB; rw [ptsB_succ h]; simp
theorem keyB_zero (ps : List A1) : keyB ps 0 = mgK ++ b4 .u32 (IntKind.u32.wrap (ps.length : Nat)) := by
  unfold keyB; rw [b4_u32]; simp [ptsB]
def kyI (ps : List A1) (b : A2) (out : List UInt8) (bd z : Int) : LState := { n := 44, sl := [(1, .p 7 0), (4, .p 19 0), (20, .sz 0 ps.length), (21, .v (.int .i64 ((ps.length : Nat) : Int))), (22, .v (.int .i64 z))], hp := [(0, .rz [.l (ptsC ps)]), (7, .own [.sz 0 ps.length, .n 6 b.1.1, .n 6 b.1.2, .n 6 b.2.1.1, .n 6 b.2.1.2, .c (.bool b.2.2)] 49), (19, .own [.sx 45 out.length, .c (.int .i64 bd)] 128), (45, .gr [.y out] 5 1)] }
def kyJ (ps : List A1) (b : A2) : LState := { n := 44, sl := [(1, .p 7 0), (4, .p 19 0), (20, .sz 0 ps.length), (21, .v (.int .i64 ((ps.length : Nat) : Int))), (22, .v (.int .i64 0))], hp := [(0, .rz [.l (ptsC ps)]), (7, .own [.sz 0 ps.length, .n 6 b.1.1, .n 6 b.1.2, .n 6 b.2.1.1, .n 6 b.2.1.2, .c (.bool b.2.2)] 49), (19, .own [.sx 45 (4 + (ofL (b4 .u32 (IntKind.u32.wrap (ps.length : Nat)))).size), .c (.int .i64 0)] 128), (45, .gr [.y mgK, .y (b4 .u32 (IntKind.u32.wrap (ps.length : Nat)))] 5 1)] }
def kyE (ps : List A1) (b : A2) (out : List UInt8) (bd : Int) : LState := { n := 44, sl := [(1, .p 7 0), (4, .p 19 0)], hp := [(0, .rz [.l (ptsC ps)]), (7, .own [.sz 0 ps.length, .n 6 b.1.1, .n 6 b.1.2, .n 6 b.2.1.1, .n 6 b.2.1.2, .c (.bool b.2.2)] 49), (19, .own [.sx 45 out.length, .c (.int .i64 bd)] 128), (45, .gr [.y out] 5 1)] }
theorem ky_pre (ps : List A1) (b : A2) : fitsP (kyJ ps b).aa (kyI ps b (keyB ps 0) (ptE (ps.take 0)) ((0 : Nat) : Int)) [] := by
  have e : fitsP (kyJ ps b).aa (kyI ps b (keyB ps 0) (ptE (ps.take 0)) ((0 : Nat) : Int)) [] = (((true = true ∧ 0 = 0) ∧ (true = true ∧ 0 = 0) ∧ (true = true ∧ ps.length = ps.length) ∧ (Value.int .i64 ((ps.length : Nat) : Int)) = (Value.int .i64 ((ps.length : Nat) : Int)) ∧ (Value.int .i64 0) = (Value.int .i64 ((0 : Nat) : Int)) ∧ True) ∧ (flat [.l (ptsC ps)] = flat [.l (ptsC ps)] ∧ (49 = 49 ∧ (true = true ∧ ps.length = ps.length) ∧ (true = true ∧ true = true ∧ limbs 6 b.1.1 = limbs 6 b.1.1) ∧ (true = true ∧ true = true ∧ limbs 6 b.1.2 = limbs 6 b.1.2) ∧ (true = true ∧ true = true ∧ limbs 6 b.2.1.1 = limbs 6 b.2.1.1) ∧ (true = true ∧ true = true ∧ limbs 6 b.2.1.2 = limbs 6 b.2.1.2) ∧ (true = true ∧ true = true ∧ [Value.bool b.2.2] = [Value.bool b.2.2]) ∧ True) ∧ (128 = 128 ∧ (true = true ∧ 4 + (ofL (b4 .u32 (IntKind.u32.wrap (ps.length : Nat)))).size = (keyB ps 0).length) ∧ (true = true ∧ true = true ∧ [Value.int .i64 0] = [Value.int .i64 (ptE (ps.take 0))]) ∧ True) ∧ ((5 = 5 ∧ 1 = 1) ∧ flat [.y mgK, .y (b4 .u32 (IntKind.u32.wrap (ps.length : Nat)))] = flat [.y (keyB ps 0)]) ∧ True)) := by kernel_rfl
  rw [e]
  exact ⟨⟨⟨rfl, rfl⟩, ⟨rfl, rfl⟩, ⟨rfl, rfl⟩, rfl, rfl, trivial⟩, ⟨rfl, ⟨rfl, ⟨rfl, rfl⟩, ⟨rfl, rfl, rfl⟩, ⟨rfl, rfl, rfl⟩, ⟨rfl, rfl, rfl⟩, ⟨rfl, rfl, rfl⟩, ⟨rfl, rfl, rfl⟩, trivial⟩, ⟨rfl, ⟨rfl, by rw [keyB_zero]; rfl⟩, ⟨rfl, rfl, by simp [ptE]⟩, trivial⟩, ⟨⟨rfl, rfl⟩, by rw [keyB_zero, flat_y]; simp [flat, Ch.cells]⟩, trivial⟩⟩
theorem ky_round0 (ps : List A1) (b : A2) (hm : ps.length ≤ 4096) (i : Nat) (a : A1) (ha : ps[i]? = some a) (hs : smP1 ps) (h0 : ptE (ps.take i) = 0) : Sound Try.prog 0 false (loopB Try.f15 0) (kyI ps b (keyB ps i) (ptE (ps.take i)) (i : Int)).aa .normal (kyI ps b (keyB ps (i + 1)) (ptE (ps.take (i + 1))) ((i + 1 : Nat) : Int)).aa := by
  have hi := plt ha
  exact roundP_sound (P := Try.prog) (X := rulesY _) (env := [ePut1T, ePut2T, eFCnt]) ⟨ePut1T_ok, ePut2T_ok, eFCnt_ok, trivial⟩ (n := 1) (os := oL [(53, wT), (54, rO 14 i), (55, { ch := 0, hi := fun _ => 0, ru := 8, cs := fun _ => ptP a }), (60, wO 0), (68, wT), (80, { ch := 0, hi := fun _ => 0, ex := 1 })]) (fb := 0) (rd := false) (c := (loopB Try.f15 0)) (k := 53) (I := kyI ps b (keyB ps i) (ptE (ps.take i)) (i : Int)) (J := kyI ps b (keyB ps (i + 1)) (ptE (ps.take (i + 1))) ((i + 1 : Nat) : Int)) (τ := [(45, 80)]) (ex := .normal) (by kernel_rfl)
    (And.intro (show ((true = true ∧ 0 = 0) ∧ (true = true ∧ 0 = 0) ∧ (true = true ∧ ps.length = ps.length) ∧ (Value.int .i64 ((ps.length : Nat) : Int)) = (Value.int .i64 ((ps.length : Nat) : Int)) ∧ (Value.int .i64 (IntKind.i64.wrap ((i : Int) + 1))) = (Value.int .i64 ((i + 1 : Nat) : Int)) ∧ True) ∧ (flat [.l (ptsC ps)] = flat [.l (ptsC ps)] ∧ (49 = 49 ∧ (true = true ∧ ps.length = ps.length) ∧ (true = true ∧ true = true ∧ limbs 6 b.1.1 = limbs 6 b.1.1) ∧ (true = true ∧ true = true ∧ limbs 6 b.1.2 = limbs 6 b.1.2) ∧ (true = true ∧ true = true ∧ limbs 6 b.2.1.1 = limbs 6 b.2.1.1) ∧ (true = true ∧ true = true ∧ limbs 6 b.2.1.2 = limbs 6 b.2.1.2) ∧ (true = true ∧ true = true ∧ [Value.bool b.2.2] = [Value.bool b.2.2]) ∧ True) ∧ (128 = 128 ∧ (true = true ∧ (keyB ps i).length + (ofL (p1S a)).size = (keyB ps (i + 1)).length) ∧ (true = true ∧ true = true ∧ [Value.int .i64 (p1E a)] = [Value.int .i64 (ptE (ps.take (i + 1)))]) ∧ True) ∧ ((5 = 5 ∧ 1 = 1) ∧ flat [.y (keyB ps i), .y (p1S a)] = flat [.y (keyB ps (i + 1))]) ∧ True) from ⟨⟨⟨rfl, rfl⟩, ⟨rfl, rfl⟩, ⟨rfl, rfl⟩, rfl, by rw [show IntKind.i64.wrap ((i : Int) + 1) = ((i + 1 : Nat) : Int) by rw [wrap_i64]; omega], trivial⟩, ⟨rfl, ⟨rfl, ⟨rfl, rfl⟩, ⟨rfl, rfl, rfl⟩, ⟨rfl, rfl, rfl⟩, ⟨rfl, rfl, rfl⟩, ⟨rfl, rfl, rfl⟩, ⟨rfl, rfl, rfl⟩, trivial⟩, ⟨rfl, ⟨rfl, by rw [keyB_succ ha, List.length_append]; rfl⟩, ⟨rfl, rfl, by rw [ptE_succ ha, if_pos h0]⟩, trivial⟩, ⟨⟨rfl, rfl⟩, by rw [keyB_succ ha, flat_y]; simp [flat, Ch.cells]⟩, trivial⟩⟩)
      (And.intro (show sizes [.y (keyB ps i)] = ((keyB ps i).length) * 1 ∧ (keyB ps i).length + (ofL (p1S a)).size ≤ 9223372036854775807 ∧ ((keyB ps i).length + (ofL (p1S a)).size) * 1 ≤ 140737488355328 ∧ True from by
        have h1 := keyB_length ps i
        have h2 : (ofL (p1S a)).size ≤ 48 := p1S_le a
        refine ⟨?_, ?_, ?_, trivial⟩ <;> (try simp only [sizes, Ch.size]) <;> omega)
      (And.intro (show (ptE (ps.take i) == 0) = true from by simpa using h0)
      (And.intro (show sml1 a from hs a (pmem ha))
      (And.intro (pt_at ps i a ha)
      (And.intro (show (i : Int) = ((i : Nat) : Int) ∧ i < ps.length from ⟨rfl, hi⟩)
      (And.intro (show decide ((i : Int) < ((ps.length : Nat) : Int)) = true from decide_eq_true (by omega)) trivial)))))))
theorem ky_round1 (ps : List A1) (b : A2) (hm : ps.length ≤ 4096) (i : Nat) (a : A1) (ha : ps[i]? = some a) (hs : smP1 ps) (h0 : ptE (ps.take i) ≠ 0) : Sound Try.prog 0 false (loopB Try.f15 0) (kyI ps b (keyB ps i) (ptE (ps.take i)) (i : Int)).aa .normal (kyI ps b (keyB ps (i + 1)) (ptE (ps.take (i + 1))) ((i + 1 : Nat) : Int)).aa := by
  have hi := plt ha
  exact roundP_sound (P := Try.prog) (X := rulesY _) (env := [ePut1T, ePut2T, eFCnt]) ⟨ePut1T_ok, ePut2T_ok, eFCnt_ok, trivial⟩ (n := 1) (os := oL [(53, wT), (54, rO 14 i), (55, { ch := 0, hi := fun _ => 0, ru := 8, cs := fun _ => ptP a }), (60, wO 0), (68, wF), (75, { ch := 0, hi := fun _ => 0, ex := 1 })]) (fb := 0) (rd := false) (c := (loopB Try.f15 0)) (k := 53) (I := kyI ps b (keyB ps i) (ptE (ps.take i)) (i : Int)) (J := kyI ps b (keyB ps (i + 1)) (ptE (ps.take (i + 1))) ((i + 1 : Nat) : Int)) (τ := [(45, 75)]) (ex := .normal) (by kernel_rfl)
    (And.intro (show ((true = true ∧ 0 = 0) ∧ (true = true ∧ 0 = 0) ∧ (true = true ∧ ps.length = ps.length) ∧ (Value.int .i64 ((ps.length : Nat) : Int)) = (Value.int .i64 ((ps.length : Nat) : Int)) ∧ (Value.int .i64 (IntKind.i64.wrap ((i : Int) + 1))) = (Value.int .i64 ((i + 1 : Nat) : Int)) ∧ True) ∧ (flat [.l (ptsC ps)] = flat [.l (ptsC ps)] ∧ (49 = 49 ∧ (true = true ∧ ps.length = ps.length) ∧ (true = true ∧ true = true ∧ limbs 6 b.1.1 = limbs 6 b.1.1) ∧ (true = true ∧ true = true ∧ limbs 6 b.1.2 = limbs 6 b.1.2) ∧ (true = true ∧ true = true ∧ limbs 6 b.2.1.1 = limbs 6 b.2.1.1) ∧ (true = true ∧ true = true ∧ limbs 6 b.2.1.2 = limbs 6 b.2.1.2) ∧ (true = true ∧ true = true ∧ [Value.bool b.2.2] = [Value.bool b.2.2]) ∧ True) ∧ (128 = 128 ∧ (true = true ∧ (keyB ps i).length + (ofL (p1S a)).size = (keyB ps (i + 1)).length) ∧ (true = true ∧ true = true ∧ [Value.int .i64 (ptE (ps.take i))] = [Value.int .i64 (ptE (ps.take (i + 1)))]) ∧ True) ∧ ((5 = 5 ∧ 1 = 1) ∧ flat [.y (keyB ps i), .y (p1S a)] = flat [.y (keyB ps (i + 1))]) ∧ True) from ⟨⟨⟨rfl, rfl⟩, ⟨rfl, rfl⟩, ⟨rfl, rfl⟩, rfl, by rw [show IntKind.i64.wrap ((i : Int) + 1) = ((i + 1 : Nat) : Int) by rw [wrap_i64]; omega], trivial⟩, ⟨rfl, ⟨rfl, ⟨rfl, rfl⟩, ⟨rfl, rfl, rfl⟩, ⟨rfl, rfl, rfl⟩, ⟨rfl, rfl, rfl⟩, ⟨rfl, rfl, rfl⟩, ⟨rfl, rfl, rfl⟩, trivial⟩, ⟨rfl, ⟨rfl, by rw [keyB_succ ha, List.length_append]; rfl⟩, ⟨rfl, rfl, by rw [ptE_succ ha, if_neg h0]⟩, trivial⟩, ⟨⟨rfl, rfl⟩, by rw [keyB_succ ha, flat_y]; simp [flat, Ch.cells]⟩, trivial⟩⟩)
      (And.intro (show sizes [.y (keyB ps i)] = ((keyB ps i).length) * 1 ∧ (keyB ps i).length + (ofL (p1S a)).size ≤ 9223372036854775807 ∧ ((keyB ps i).length + (ofL (p1S a)).size) * 1 ≤ 140737488355328 ∧ True from by
        have h1 := keyB_length ps i
        have h2 : (ofL (p1S a)).size ≤ 48 := p1S_le a
        refine ⟨?_, ?_, ?_, trivial⟩ <;> (try simp only [sizes, Ch.size]) <;> omega)
      (And.intro (show (ptE (ps.take i) == 0) = false from by simpa using h0)
      (And.intro (show sml1 a from hs a (pmem ha))
      (And.intro (pt_at ps i a ha)
      (And.intro (show (i : Int) = ((i : Nat) : Int) ∧ i < ps.length from ⟨rfl, hi⟩)
      (And.intro (show decide ((i : Int) < ((ps.length : Nat) : Int)) = true from decide_eq_true (by omega)) trivial)))))))
theorem ky_end (ps : List A1) (b : A2) (out : List UInt8) (bd : Int) : Sound Try.prog 0 false (loopB Try.f15 0) (kyI ps b out bd ((ps.length : Nat) : Int)).aa (.exit 0) (kyE ps b out bd).aa :=
  roundK_sound (P := Try.prog) (X := rulesY _) (env := []) trivial (n := 0) (os := oL [(53, wF)]) (fb := 0) (rd := false) (c := (loopB Try.f15 0)) (k := 53) (I := kyI ps b out bd ((ps.length : Nat) : Int)) (sk := [1, 4]) (hk := [0, 7, 19, 45]) (lk := []) (ex := .exit 0)
    (L := kyE ps b out bd) (by kernel_rfl) (And.intro (show decide (((ps.length : Nat) : Int) < ((ps.length : Nat) : Int)) = false from decide_eq_false (by omega)) trivial)
theorem ky_all (ps : List A1) (b : A2) (hm : ps.length ≤ 4096) (hs : smP1 ps) : Sound Try.prog 0 false (.loop (loopB Try.f15 0)) (kyI ps b (keyB ps 0) (ptE (ps.take 0)) ((0 : Nat) : Int)).aa (.exit 0) (kyE ps b (keyB ps ps.length) (ptE ps)).aa := by
  refine loop_ok (m := fun y : { i : Nat // i ≤ ps.length } => ps.length - y.val) (fun y => kyI ps b (keyB ps y.val) (ptE (ps.take y.val)) (y.val : Int)) (by simp) (fun y => ?_) ⟨0, by omega⟩
  obtain ⟨i, hi⟩ := y
  by_cases e : i < ps.length
  · obtain ⟨x, hx⟩ := pof e
    refine .inl ⟨⟨i + 1, e⟩, by show ps.length - (i + 1) < ps.length - i; omega, ?_⟩
    by_cases h0 : ptE (ps.take i) = 0
    · exact ky_round0 ps b hm i x hx hs h0
    · exact ky_round1 ps b hm i x hx hs h0
  · have e : i = ps.length := by omega
    subst e
    refine .inr ?_
    show Sound Try.prog 0 false _ (kyI ps b (keyB ps ps.length) (ptE (ps.take ps.length)) _).aa _ _
    rw [List.take_length]
    exact ky_end ps b _ _
theorem two_y (a b : List UInt8) : (flat [.y a, .y b]).take (a.length + (ofL b).size) = (ofL (a ++ b)).data.toList.map byteV ∧ a.length + (ofL b).size = (ofL (a ++ b)).size := by
  have e : (ofL b).size = b.length := rfl
  have e2 : (ofL (a ++ b)).size = (a ++ b).length := rfl
  rw [e, e2, List.length_append]
  refine ⟨?_, rfl⟩
  have e3 : flat [.y a, .y b] = (a ++ b).map byteV := by simp [flat, Ch.cells]
  rw [e3, List.take_of_length_le (by simp)]
  rfl
theorem key_long (ps : List A1) (b : A2) (h : 4096 < ps.length) : Gives Try.prog 15 [.ags [.z [.l (ptsC ps)] ps.length, .c (.n 6 b.1.1), .c (.n 6 b.1.2), .c (.n 6 b.2.1.1), .c (.n 6 b.2.1.2), .c (.c (.bool b.2.2))]] (.tp [.v (.string (ofL [])), .v (.int .i64 1)]) :=
  fn_gives_at (P := Try.prog) (X := rulesY _) (env := [ePut1T, ePut2T, eFCnt]) ⟨ePut1T_ok, ePut2T_ok, eFCnt_ok, trivial⟩ Try.func15 1 (oL [(13, wT)]) (by kernel_rfl) ⟨_, rfl⟩
    (And.intro (show decide (((ps.length : Nat) : Int) > 4096) = true from decide_eq_true (by omega)) trivial)
theorem zgg_0 : flat [.y mgK] = (ofL mgK).data.toList.map byteV := flat_y mgK
theorem zgg_1 (ps : List A1) (hm : ps.length ≤ 4096) : decide (((ps.length : Nat) : Int) > 4096) = false := decide_eq_false (by omega)
theorem key_ok (ps : List A1) (b : A2) (hm : ps.length ≤ 4096) (hs : smP1 ps) (hb : sml2 b) (h1 : ptE ps = 0) (h2 : p2E b = 0) : Gives Try.prog 15 [.ags [.z [.l (ptsC ps)] ps.length, .c (.n 6 b.1.1), .c (.n 6 b.1.2), .c (.n 6 b.2.1.1), .c (.n 6 b.2.1.2), .c (.c (.bool b.2.2))]] (.tp [.v (.string (ofL ((keyB ps ps.length) ++ p2S b))), .v (.int .i64 0)]) :=
  fn_gives_at (P := Try.prog) (X := rulesY _) (env := [ePut1T, ePut2T, eFCnt]) ⟨ePut1T_ok, ePut2T_ok, eFCnt_ok, trivial⟩ Try.func15 1 (oL [(13, wF), (17, { ch := 0, hi := fun _ => 0, ex := 2, cs := fun _ => [.y mgK] }), (53, lpO { I := kyJ ps b, ex := .exit 0, E := kyE ps b (keyB ps ps.length) (ptE ps), fr := 54 }), (57, wO 0), (65, wT), (77, { ch := 0, hi := fun _ => 0, ex := 1 }), (89, wF), (94, { ch := 0, hi := fun _ => 0, ru := 10, av := fun _ => .v (.string (ofL ((keyB ps ps.length) ++ p2S b))) })]) (by kernel_rfl) ⟨_, rfl⟩
    (And.intro (show (flat [.y (keyB ps ps.length), .y (p2S b)]).take ((keyB ps ps.length).length + (ofL (p2S b)).size) = (ofL ((keyB ps ps.length) ++ p2S b)).data.toList.map byteV ∧ (keyB ps ps.length).length + (ofL (p2S b)).size = (ofL ((keyB ps ps.length) ++ p2S b)).size from two_y _ _)
      (And.intro (show (p2E b != 0) = false from by rw [h2]; rfl)
      (And.intro (show sizes [.y (keyB ps ps.length)] = ((keyB ps ps.length).length) * 1 ∧ (keyB ps ps.length).length + (ofL (p2S b)).size ≤ 9223372036854775807 ∧ ((keyB ps ps.length).length + (ofL (p2S b)).size) * 1 ≤ 140737488355328 ∧ True from by
        have h1 := keyB_length ps ps.length
        have h2 : (ofL (p2S b)).size ≤ 96 := p2S_le b
        refine ⟨?_, ?_, ?_, trivial⟩ <;> (try simp only [sizes, Ch.size]) <;> omega)
      (And.intro (show (ptE ps == 0) = true from by simpa using h1)
      (And.intro (show sml2 b from hb)
      (And.intro (show some (kyJ ps b) = some (kyJ ps b) from rfl)
      (And.intro ((ky_all ps b hm hs).pre [] (by kernel_rfl) (ky_pre ps b))
      (And.intro zgg_0
      (And.intro (zgg_1 ps hm) trivial)))))))))
theorem key_e2 (ps : List A1) (b : A2) (hm : ps.length ≤ 4096) (hs : smP1 ps) (hb : sml2 b) (h1 : ptE ps = 0) (h2 : p2E b ≠ 0) : Gives Try.prog 15 [.ags [.z [.l (ptsC ps)] ps.length, .c (.n 6 b.1.1), .c (.n 6 b.1.2), .c (.n 6 b.2.1.1), .c (.n 6 b.2.1.2), .c (.c (.bool b.2.2))]] (.tp [.v (.string (ofL [])), .v (.int .i64 (p2E b))]) :=
  fn_gives_at (P := Try.prog) (X := rulesY _) (env := [ePut1T, ePut2T, eFCnt]) ⟨ePut1T_ok, ePut2T_ok, eFCnt_ok, trivial⟩ Try.func15 1 (oL [(13, wF), (17, { ch := 0, hi := fun _ => 0, ex := 2, cs := fun _ => [.y mgK] }), (53, lpO { I := kyJ ps b, ex := .exit 0, E := kyE ps b (keyB ps ps.length) (ptE ps), fr := 54 }), (57, wO 0), (65, wT), (77, { ch := 0, hi := fun _ => 0, ex := 1 }), (89, wT)]) (by kernel_rfl) ⟨_, rfl⟩
    (And.intro (show (p2E b != 0) = true from by simpa using h2)
      (And.intro (show sizes [.y (keyB ps ps.length)] = ((keyB ps ps.length).length) * 1 ∧ (keyB ps ps.length).length + (ofL (p2S b)).size ≤ 9223372036854775807 ∧ ((keyB ps ps.length).length + (ofL (p2S b)).size) * 1 ≤ 140737488355328 ∧ True from by
        have h1 := keyB_length ps ps.length
        have h2 : (ofL (p2S b)).size ≤ 96 := p2S_le b
        refine ⟨?_, ?_, ?_, trivial⟩ <;> (try simp only [sizes, Ch.size]) <;> omega)
      (And.intro (show (ptE ps == 0) = true from by simpa using h1)
      (And.intro (show sml2 b from hb)
      (And.intro (show some (kyJ ps b) = some (kyJ ps b) from rfl)
      (And.intro ((ky_all ps b hm hs).pre [] (by kernel_rfl) (ky_pre ps b))
      (And.intro zgg_0
      (And.intro (zgg_1 ps hm) trivial))))))))
theorem key_e1 (ps : List A1) (b : A2) (hm : ps.length ≤ 4096) (hs : smP1 ps) (hb : sml2 b) (h1 : ptE ps ≠ 0) : Gives Try.prog 15 [.ags [.z [.l (ptsC ps)] ps.length, .c (.n 6 b.1.1), .c (.n 6 b.1.2), .c (.n 6 b.2.1.1), .c (.n 6 b.2.1.2), .c (.c (.bool b.2.2))]] (.tp [.v (.string (ofL [])), .v (.int .i64 (ptE ps))]) :=
  fn_gives_at (P := Try.prog) (X := rulesY _) (env := [ePut1T, ePut2T, eFCnt]) ⟨ePut1T_ok, ePut2T_ok, eFCnt_ok, trivial⟩ Try.func15 1 (oL [(13, wF), (17, { ch := 0, hi := fun _ => 0, ex := 2, cs := fun _ => [.y mgK] }), (53, lpO { I := kyJ ps b, ex := .exit 0, E := kyE ps b (keyB ps ps.length) (ptE ps), fr := 54 }), (57, wO 0), (65, wF), (72, { ch := 0, hi := fun _ => 0, ex := 1 }), (84, wT)]) (by kernel_rfl) ⟨_, rfl⟩
    (And.intro (show (ptE ps != 0) = true from by simpa using h1)
      (And.intro (show sizes [.y (keyB ps ps.length)] = ((keyB ps ps.length).length) * 1 ∧ (keyB ps ps.length).length + (ofL (p2S b)).size ≤ 9223372036854775807 ∧ ((keyB ps ps.length).length + (ofL (p2S b)).size) * 1 ≤ 140737488355328 ∧ True from by
        have h1 := keyB_length ps ps.length
        have h2 : (ofL (p2S b)).size ≤ 96 := p2S_le b
        refine ⟨?_, ?_, ?_, trivial⟩ <;> (try simp only [sizes, Ch.size]) <;> omega)
      (And.intro (show (ptE ps == 0) = false from by simpa using h1)
      (And.intro (show sml2 b from hb)
      (And.intro (show some (kyJ ps b) = some (kyJ ps b) from rfl)
      (And.intro ((ky_all ps b hm hs).pre [] (by kernel_rfl) (ky_pre ps b))
      (And.intro zgg_0
      (And.intro (zgg_1 ps hm) trivial))))))))
end Go.Proofs.Ytmbllhibdbeplaa

/- chirographlaw23.FormatRest: any public values, and any key, are written as just those bytes, or refused. -/
set_option linter.unusedSimpArgs false
set_option linter.unusedVariables false
namespace Go.Proofs.Ytmbllhibdbeplaa
open Go.Ev Go.RowKit
theorem cutN (g0 ns : List Nat) (h : ns = g0.take 100) (hb : 100 < g0.length) : (100 : Int) = ((ns.length : Nat) : Int) ∧ ns.length ≤ g0.length ∧ flat [.l (numC 4 ns)] = (flat [.l (numC 4 g0)]).take (ns.length * 4) := by
  have hl : ns.length = 100 := by subst h; rw [List.length_take]; omega
  refine ⟨by rw [hl]; rfl, by omega, ?_⟩
  rw [flat_l, flat_l]
  have e2 : numC 4 g0 = numC 4 ns ++ numC 4 (g0.drop 100) := by
    conv => lhs; rw [← List.take_append_drop 100 g0, ← h]
    simp [numC]
  rw [e2, ← numC_length, List.take_left]
theorem cutP (g0 ps : List A1) (h : ps = g0.take 20) (hb : 20 < g0.length) : (20 : Int) = ((ps.length : Nat) : Int) ∧ ps.length ≤ g0.length ∧ flat [.l (ptsC ps)] = (flat [.l (ptsC g0)]).take (ps.length * 13) := by
  have hl : ps.length = 20 := by subst h; rw [List.length_take]; omega
  refine ⟨by rw [hl]; rfl, by omega, ?_⟩
  rw [flat_l, flat_l]
  have e2 : ptsC g0 = ptsC ps ++ ptsC (g0.drop 20) := by
    conv => lhs; rw [← List.take_append_drop 20 g0, ← h]
    simp [ptsC]
  have hc : (ptsC ps).length = ps.length * 13 := by
    have : ∀ l : List A1, (ptsC l).length = l.length * 13 := fun l => by
      induction l with
      | nil => rfl
      | cons g l ih => simp only [ptsC, List.flatMap_cons, List.length_append, ptC_length, List.length_cons] at ih ⊢; omega
    exact this ps
  rw [e2, ← hc, List.take_left]
theorem sz_b4 (k : IntKind) (n : Int) : (ofL (b4 k n)).size = 4 := rfl
theorem sz_num (ns : List Nat) : (ofL (numB ns)).size = 32 * ns.length := numB_length ns
theorem sz_pts (ps : List A1) : (ofL (ptsB ps)).size ≤ 48 * ps.length := ptsB_length ps
theorem sz_p2 (b : A2) : (ofL (p2S b)).size ≤ 96 := p2S_le b
theorem sz_ap (a b : List UInt8) : (ofL (a ++ b)).size = (ofL a).size + (ofL b).size := List.length_append
theorem sz_mgW : (ofL mgW).size = 4 := rfl
theorem sz_mgK : (ofL mgK).size = 4 := rfl
theorem fr_AAa0 (ns : List Nat) (ps : List A1) (b : A2) (hbn : sm4 ns) (hsp : smP1 ps) (hb : sml2 b) (hn : ns.length ≤ 100) (hp : ps.length ≤ 20) (hl : 64 < ns.length) (h1 : ptE ps = 0) (h2 : p2E b = 0) : Gives Try.prog 4 [.rz [.l (numC 4 ns)] ns.length, .ags [.z [.l (ptsC ps)] ps.length, .c (.n 6 b.1.1), .c (.n 6 b.1.2), .c (.n 6 b.2.1.1), .c (.n 6 b.2.1.2), .c (.c (.bool b.2.2))]] (.v (.bool true)) := by
  exact fn_gives_at (P := Try.prog) (X := rulesY _) (env := [eFAlive, eLCnt, ePut2T]) ⟨eFAlive_ok, eLCnt_ok, ePut2T_ok, trivial⟩ Try.func4 1 (oL [(12, wF), (16, wF), (24, { ch := 0, hi := fun _ => 0, ex := 7, av := fun _ => .tp [.v (.string (ofL [])), .v (.int .i64 1)] }), (33, wT), (41, { ch := 0, hi := fun _ => 0, ex := 7, av := fun _ => .tp [.v (.string (ofL (keyB ps ps.length ++ p2S b))), .v (.int .i64 0)] }), (50, wF), (53, { ch := 0, hi := fun _ => 0, ex := 7, av := fun _ => .tp [.v (.string (ofL (ptsB ps))), .v (.int .i64 0)] }), (61, wO 0), (78, rO 6 0), (80, { ch := 0, hi := fun _ => 0, ex := 7, av := fun _ => .v (.string (ofL (numB ns))) }), (81, rO 6 0), (92, wT), (103, rO 6 0), (105, rO 6 0), (107, rO 6 0), (112, wF), (118, wT)]) (by kernel_rfl) ⟨_, rfl⟩
    (And.intro (show ((ofL (keyB ps ps.length ++ p2S b)).toList == (ofL (((mgK ++ (b4 .i64 (ps.length : Nat))) ++ (ptsB ps)) ++ p2S b)).toList) = true from by unfold keyB; rw [List.take_length]; simp)
      (And.intro (show (p2E b != 0) = false from by rw [h2]; rfl)
      (And.intro (show (ofL ((mgK ++ (b4 .i64 (ps.length : Nat))) ++ (ptsB ps))).size + (ofL (p2S b)).size ≤ 9223372036854775807 from by
        have h1 := sz_num ns
        have h2 := sz_pts ps
        have h3 := sz_p2 b
        simp only [sz_ap, sz_b4, sz_mgW, sz_mgK]
        omega)
      (And.intro (show (ofL (mgK ++ (b4 .i64 (ps.length : Nat)))).size + (ofL (ptsB ps)).size ≤ 9223372036854775807 from by
        have h1 := sz_num ns
        have h2 := sz_pts ps
        have h3 := sz_p2 b
        simp only [sz_ap, sz_b4, sz_mgW, sz_mgK]
        omega)
      (And.intro (show (ofL mgK).size + (ofL (b4 .i64 (ps.length : Nat))).size ≤ 9223372036854775807 from by
        have h1 := sz_num ns
        have h2 := sz_pts ps
        have h3 := sz_p2 b
        simp only [sz_ap, sz_b4, sz_mgW, sz_mgK]
        omega)
      (And.intro (show ((ofL []).toList == (ofL []).toList) = true from by simp)
      (And.intro (show (ofL (mgW ++ (b4 .i64 (ns.length : Nat)))).size + (ofL (numB ns)).size ≤ 9223372036854775807 from by
        have h1 := sz_num ns
        have h2 := sz_pts ps
        have h3 := sz_p2 b
        simp only [sz_ap, sz_b4, sz_mgW, sz_mgK]
        omega)
      (And.intro (show GivesE Try.prog 11 [.rz [.l (numC 4 ns)] ns.length] (.v (.string (ofL (numB ns)))) from ⟨fun vs w => Go.Proofs.enters_of (P := Try.prog) Try.func11 (by kernel_rfl) rfl vs w, lnum ns (by omega) hbn⟩)
      (And.intro (show (ofL mgW).size + (ofL (b4 .i64 (ns.length : Nat))).size ≤ 9223372036854775807 from by
        have h1 := sz_num ns
        have h2 := sz_pts ps
        have h3 := sz_p2 b
        simp only [sz_ap, sz_b4, sz_mgW, sz_mgK]
        omega)
      (And.intro (show sml2 b from hb)
      (And.intro (show GivesE Try.prog 16 [.rz [.l (ptsC ps)] ps.length] (.tp [.v (.string (ofL (ptsB ps))), .v (.int .i64 0)]) from ⟨fun vs w => Go.Proofs.enters_of (P := Try.prog) Try.func16 (by kernel_rfl) rfl vs w, pts_yes ps (by omega) hsp h1⟩)
      (And.intro (show decide (((ps.length : Nat) : Int) > 4096) = false from decide_eq_false (by omega))
      (And.intro (show GivesE Try.prog 15 [.ags [.z [.l (ptsC ps)] ps.length, .c (.n 6 b.1.1), .c (.n 6 b.1.2), .c (.n 6 b.2.1.1), .c (.n 6 b.2.1.2), .c (.c (.bool b.2.2))]] (.tp [.v (.string (ofL (keyB ps ps.length ++ p2S b))), .v (.int .i64 0)]) from ⟨fun vs w => Go.Proofs.enters_of (P := Try.prog) Try.func15 (by kernel_rfl) rfl vs w, key_ok ps b (by omega) hsp hb h1 h2⟩)
      (And.intro (show decide (((ns.length : Nat) : Int) > 64) = true from decide_eq_true (by omega))
      (And.intro (show GivesE Try.prog 14 [.rz [.l (numC 4 ns)] ns.length] (.tp [.v (.string (ofL [])), .v (.int .i64 1)]) from ⟨fun vs w => Go.Proofs.enters_of (P := Try.prog) Try.func14 (by kernel_rfl) rfl vs w, pub_long ns hl⟩)
      (And.intro (show decide (((ps.length : Nat) : Int) > 20) = false from decide_eq_false (by omega))
      (And.intro (show decide (((ns.length : Nat) : Int) > 100) = false from decide_eq_false (by omega)) trivial)))))))))))))))))
theorem fr_AAa1 (ns : List Nat) (ps : List A1) (b : A2) (hbn : sm4 ns) (hsp : smP1 ps) (hb : sml2 b) (hn : ns.length ≤ 100) (hp : ps.length ≤ 20) (hl : 64 < ns.length) (h1 : ptE ps ≠ 0) : Gives Try.prog 4 [.rz [.l (numC 4 ns)] ns.length, .ags [.z [.l (ptsC ps)] ps.length, .c (.n 6 b.1.1), .c (.n 6 b.1.2), .c (.n 6 b.2.1.1), .c (.n 6 b.2.1.2), .c (.c (.bool b.2.2))]] (.v (.bool true)) := by
  exact fn_gives_at (P := Try.prog) (X := rulesY _) (env := [eFAlive, eLCnt, ePut2T]) ⟨eFAlive_ok, eLCnt_ok, ePut2T_ok, trivial⟩ Try.func4 1 (oL [(12, wF), (16, wF), (24, { ch := 0, hi := fun _ => 0, ex := 7, av := fun _ => .tp [.v (.string (ofL [])), .v (.int .i64 1)] }), (33, wT), (41, { ch := 0, hi := fun _ => 0, ex := 7, av := fun _ => .tp [.v (.string (ofL [])), .v (.int .i64 (ptE ps))] }), (50, wF), (53, { ch := 0, hi := fun _ => 0, ex := 7, av := fun _ => .tp [.v (.string (ofL [])), .v (.int .i64 (ptE ps))] }), (61, wO 0), (68, wF), (76, rO 6 0), (78, { ch := 0, hi := fun _ => 0, ex := 7, av := fun _ => .v (.string (ofL (numB ns))) }), (79, rO 6 0), (90, wT), (101, rO 6 0), (103, rO 6 0), (105, rO 6 0), (110, wT), (113, wT), (116, wT)]) (by kernel_rfl) ⟨_, rfl⟩
    (And.intro (show ((ofL []).toList == (ofL []).toList) = true from by simp)
      (And.intro (show ((ptE ps) == (ptE ps)) = true from by simp)
      (And.intro (show ((ptE ps) != 0) = true from by simpa using h1)
      (And.intro (show (ofL ((mgK ++ (b4 .i64 (ps.length : Nat))) ++ [])).size + (ofL (p2S b)).size ≤ 9223372036854775807 from by
        have h3 := sz_p2 b
        have h4 : (ofL []).size = 0 := rfl
        simp only [sz_ap, sz_b4, sz_mgK, h4]
        omega)
      (And.intro (show (ofL (mgK ++ (b4 .i64 (ps.length : Nat)))).size + (ofL []).size ≤ 9223372036854775807 from by simp only [sz_ap, sz_b4, sz_mgK]; decide)
      (And.intro (show (ofL mgK).size + (ofL (b4 .i64 (ps.length : Nat))).size ≤ 9223372036854775807 from by
        have h1 := sz_num ns
        have h2 := sz_pts ps
        have h3 := sz_p2 b
        simp only [sz_ap, sz_b4, sz_mgW, sz_mgK]
        omega)
      (And.intro (show ((ofL []).toList == (ofL []).toList) = true from by simp)
      (And.intro (show (ofL (mgW ++ (b4 .i64 (ns.length : Nat)))).size + (ofL (numB ns)).size ≤ 9223372036854775807 from by
        have h1 := sz_num ns
        have h2 := sz_pts ps
        have h3 := sz_p2 b
        simp only [sz_ap, sz_b4, sz_mgW, sz_mgK]
        omega)
      (And.intro (show GivesE Try.prog 11 [.rz [.l (numC 4 ns)] ns.length] (.v (.string (ofL (numB ns)))) from ⟨fun vs w => Go.Proofs.enters_of (P := Try.prog) Try.func11 (by kernel_rfl) rfl vs w, lnum ns (by omega) hbn⟩)
      (And.intro (show (ofL mgW).size + (ofL (b4 .i64 (ns.length : Nat))).size ≤ 9223372036854775807 from by
        have h1 := sz_num ns
        have h2 := sz_pts ps
        have h3 := sz_p2 b
        simp only [sz_ap, sz_b4, sz_mgW, sz_mgK]
        omega)
      (And.intro (show (ptE ps == 0) = false from by simpa using h1)
      (And.intro (show sml2 b from hb)
      (And.intro (show GivesE Try.prog 16 [.rz [.l (ptsC ps)] ps.length] (.tp [.v (.string (ofL [])), .v (.int .i64 (ptE ps))]) from ⟨fun vs w => Go.Proofs.enters_of (P := Try.prog) Try.func16 (by kernel_rfl) rfl vs w, pts_no ps (by omega) hsp h1⟩)
      (And.intro (show decide (((ps.length : Nat) : Int) > 4096) = false from decide_eq_false (by omega))
      (And.intro (show GivesE Try.prog 15 [.ags [.z [.l (ptsC ps)] ps.length, .c (.n 6 b.1.1), .c (.n 6 b.1.2), .c (.n 6 b.2.1.1), .c (.n 6 b.2.1.2), .c (.c (.bool b.2.2))]] (.tp [.v (.string (ofL [])), .v (.int .i64 (ptE ps))]) from ⟨fun vs w => Go.Proofs.enters_of (P := Try.prog) Try.func15 (by kernel_rfl) rfl vs w, key_e1 ps b (by omega) hsp hb h1⟩)
      (And.intro (show decide (((ns.length : Nat) : Int) > 64) = true from decide_eq_true (by omega))
      (And.intro (show GivesE Try.prog 14 [.rz [.l (numC 4 ns)] ns.length] (.tp [.v (.string (ofL [])), .v (.int .i64 1)]) from ⟨fun vs w => Go.Proofs.enters_of (P := Try.prog) Try.func14 (by kernel_rfl) rfl vs w, pub_long ns hl⟩)
      (And.intro (show decide (((ps.length : Nat) : Int) > 20) = false from decide_eq_false (by omega))
      (And.intro (show decide (((ns.length : Nat) : Int) > 100) = false from decide_eq_false (by omega)) trivial)))))))))))))))))))
theorem fr_AAa2 (ns : List Nat) (ps : List A1) (b : A2) (hbn : sm4 ns) (hsp : smP1 ps) (hb : sml2 b) (hn : ns.length ≤ 100) (hp : ps.length ≤ 20) (hl : 64 < ns.length) (h1 : ptE ps = 0) (h2 : p2E b ≠ 0) : Gives Try.prog 4 [.rz [.l (numC 4 ns)] ns.length, .ags [.z [.l (ptsC ps)] ps.length, .c (.n 6 b.1.1), .c (.n 6 b.1.2), .c (.n 6 b.2.1.1), .c (.n 6 b.2.1.2), .c (.c (.bool b.2.2))]] (.v (.bool true)) := by
  exact fn_gives_at (P := Try.prog) (X := rulesY _) (env := [eFAlive, eLCnt, ePut2T]) ⟨eFAlive_ok, eLCnt_ok, ePut2T_ok, trivial⟩ Try.func4 1 (oL [(12, wF), (16, wF), (24, { ch := 0, hi := fun _ => 0, ex := 7, av := fun _ => .tp [.v (.string (ofL [])), .v (.int .i64 1)] }), (33, wT), (41, { ch := 0, hi := fun _ => 0, ex := 7, av := fun _ => .tp [.v (.string (ofL [])), .v (.int .i64 (p2E b))] }), (50, wF), (53, { ch := 0, hi := fun _ => 0, ex := 7, av := fun _ => .tp [.v (.string (ofL (ptsB ps))), .v (.int .i64 0)] }), (61, wO 0), (78, rO 6 0), (80, { ch := 0, hi := fun _ => 0, ex := 7, av := fun _ => .v (.string (ofL (numB ns))) }), (81, rO 6 0), (92, wT), (103, rO 6 0), (105, rO 6 0), (107, rO 6 0), (112, wT), (115, wT), (118, wT)]) (by kernel_rfl) ⟨_, rfl⟩
    (And.intro (show ((ofL []).toList == (ofL []).toList) = true from by simp)
      (And.intro (show ((p2E b) == (p2E b)) = true from by simp)
      (And.intro (show ((p2E b) != 0) = true from by simpa using h2)
      (And.intro (show (ofL ((mgK ++ (b4 .i64 (ps.length : Nat))) ++ (ptsB ps))).size + (ofL (p2S b)).size ≤ 9223372036854775807 from by
        have h1 := sz_num ns
        have h2 := sz_pts ps
        have h3 := sz_p2 b
        simp only [sz_ap, sz_b4, sz_mgW, sz_mgK]
        omega)
      (And.intro (show (ofL (mgK ++ (b4 .i64 (ps.length : Nat)))).size + (ofL (ptsB ps)).size ≤ 9223372036854775807 from by
        have h1 := sz_num ns
        have h2 := sz_pts ps
        have h3 := sz_p2 b
        simp only [sz_ap, sz_b4, sz_mgW, sz_mgK]
        omega)
      (And.intro (show (ofL mgK).size + (ofL (b4 .i64 (ps.length : Nat))).size ≤ 9223372036854775807 from by
        have h1 := sz_num ns
        have h2 := sz_pts ps
        have h3 := sz_p2 b
        simp only [sz_ap, sz_b4, sz_mgW, sz_mgK]
        omega)
      (And.intro (show ((ofL []).toList == (ofL []).toList) = true from by simp)
      (And.intro (show (ofL (mgW ++ (b4 .i64 (ns.length : Nat)))).size + (ofL (numB ns)).size ≤ 9223372036854775807 from by
        have h1 := sz_num ns
        have h2 := sz_pts ps
        have h3 := sz_p2 b
        simp only [sz_ap, sz_b4, sz_mgW, sz_mgK]
        omega)
      (And.intro (show GivesE Try.prog 11 [.rz [.l (numC 4 ns)] ns.length] (.v (.string (ofL (numB ns)))) from ⟨fun vs w => Go.Proofs.enters_of (P := Try.prog) Try.func11 (by kernel_rfl) rfl vs w, lnum ns (by omega) hbn⟩)
      (And.intro (show (ofL mgW).size + (ofL (b4 .i64 (ns.length : Nat))).size ≤ 9223372036854775807 from by
        have h1 := sz_num ns
        have h2 := sz_pts ps
        have h3 := sz_p2 b
        simp only [sz_ap, sz_b4, sz_mgW, sz_mgK]
        omega)
      (And.intro (show sml2 b from hb)
      (And.intro (show GivesE Try.prog 16 [.rz [.l (ptsC ps)] ps.length] (.tp [.v (.string (ofL (ptsB ps))), .v (.int .i64 0)]) from ⟨fun vs w => Go.Proofs.enters_of (P := Try.prog) Try.func16 (by kernel_rfl) rfl vs w, pts_yes ps (by omega) hsp h1⟩)
      (And.intro (show decide (((ps.length : Nat) : Int) > 4096) = false from decide_eq_false (by omega))
      (And.intro (show GivesE Try.prog 15 [.ags [.z [.l (ptsC ps)] ps.length, .c (.n 6 b.1.1), .c (.n 6 b.1.2), .c (.n 6 b.2.1.1), .c (.n 6 b.2.1.2), .c (.c (.bool b.2.2))]] (.tp [.v (.string (ofL [])), .v (.int .i64 (p2E b))]) from ⟨fun vs w => Go.Proofs.enters_of (P := Try.prog) Try.func15 (by kernel_rfl) rfl vs w, key_e2 ps b (by omega) hsp hb h1 h2⟩)
      (And.intro (show decide (((ns.length : Nat) : Int) > 64) = true from decide_eq_true (by omega))
      (And.intro (show GivesE Try.prog 14 [.rz [.l (numC 4 ns)] ns.length] (.tp [.v (.string (ofL [])), .v (.int .i64 1)]) from ⟨fun vs w => Go.Proofs.enters_of (P := Try.prog) Try.func14 (by kernel_rfl) rfl vs w, pub_long ns hl⟩)
      (And.intro (show decide (((ps.length : Nat) : Int) > 20) = false from decide_eq_false (by omega))
      (And.intro (show decide (((ns.length : Nat) : Int) > 100) = false from decide_eq_false (by omega)) trivial))))))))))))))))))
theorem fr_AAb0 (ns : List Nat) (ps : List A1) (b : A2) (hbn : sm4 ns) (hsp : smP1 ps) (hb : sml2 b) (hn : ns.length ≤ 100) (hp : ps.length ≤ 20) (hl : ns.length ≤ 64) (hc : ¬ cleanN ns) (h1 : ptE ps = 0) (h2 : p2E b = 0) : Gives Try.prog 4 [.rz [.l (numC 4 ns)] ns.length, .ags [.z [.l (ptsC ps)] ps.length, .c (.n 6 b.1.1), .c (.n 6 b.1.2), .c (.n 6 b.2.1.1), .c (.n 6 b.2.1.2), .c (.c (.bool b.2.2))]] (.v (.bool true)) := by
  exact fn_gives_at (P := Try.prog) (X := rulesY _) (env := [eFAlive, eLCnt, ePut2T]) ⟨eFAlive_ok, eLCnt_ok, ePut2T_ok, trivial⟩ Try.func4 1 (oL [(12, wF), (16, wF), (24, { ch := 0, hi := fun _ => 0, ex := 7, av := fun _ => .tp [.v (.string (ofL [])), .v (.int .i64 1)] }), (33, wF), (36, { ch := 0, hi := fun _ => 0, ex := 7, av := fun _ => .v (.bool false) }), (41, { ch := 0, hi := fun _ => 0, ex := 7, av := fun _ => .tp [.v (.string (ofL (keyB ps ps.length ++ p2S b))), .v (.int .i64 0)] }), (50, wF), (53, { ch := 0, hi := fun _ => 0, ex := 7, av := fun _ => .tp [.v (.string (ofL (ptsB ps))), .v (.int .i64 0)] }), (61, wO 0), (78, rO 6 0), (80, { ch := 0, hi := fun _ => 0, ex := 7, av := fun _ => .v (.string (ofL (numB ns))) }), (81, rO 6 0), (92, wT), (103, rO 6 0), (105, rO 6 0), (107, rO 6 0), (112, wF), (118, wT)]) (by kernel_rfl) ⟨_, rfl⟩
    (And.intro (show ((ofL (keyB ps ps.length ++ p2S b)).toList == (ofL (((mgK ++ (b4 .i64 (ps.length : Nat))) ++ (ptsB ps)) ++ p2S b)).toList) = true from by unfold keyB; rw [List.take_length]; simp)
      (And.intro (show (p2E b != 0) = false from by rw [h2]; rfl)
      (And.intro (show (ofL ((mgK ++ (b4 .i64 (ps.length : Nat))) ++ (ptsB ps))).size + (ofL (p2S b)).size ≤ 9223372036854775807 from by
        have h1 := sz_num ns
        have h2 := sz_pts ps
        have h3 := sz_p2 b
        simp only [sz_ap, sz_b4, sz_mgW, sz_mgK]
        omega)
      (And.intro (show (ofL (mgK ++ (b4 .i64 (ps.length : Nat)))).size + (ofL (ptsB ps)).size ≤ 9223372036854775807 from by
        have h1 := sz_num ns
        have h2 := sz_pts ps
        have h3 := sz_p2 b
        simp only [sz_ap, sz_b4, sz_mgW, sz_mgK]
        omega)
      (And.intro (show (ofL mgK).size + (ofL (b4 .i64 (ps.length : Nat))).size ≤ 9223372036854775807 from by
        have h1 := sz_num ns
        have h2 := sz_pts ps
        have h3 := sz_p2 b
        simp only [sz_ap, sz_b4, sz_mgW, sz_mgK]
        omega)
      (And.intro (show ((ofL []).toList == (ofL []).toList) = true from by simp)
      (And.intro (show (ofL (mgW ++ (b4 .i64 (ns.length : Nat)))).size + (ofL (numB ns)).size ≤ 9223372036854775807 from by
        have h1 := sz_num ns
        have h2 := sz_pts ps
        have h3 := sz_p2 b
        simp only [sz_ap, sz_b4, sz_mgW, sz_mgK]
        omega)
      (And.intro (show GivesE Try.prog 11 [.rz [.l (numC 4 ns)] ns.length] (.v (.string (ofL (numB ns)))) from ⟨fun vs w => Go.Proofs.enters_of (P := Try.prog) Try.func11 (by kernel_rfl) rfl vs w, lnum ns (by omega) hbn⟩)
      (And.intro (show (ofL mgW).size + (ofL (b4 .i64 (ns.length : Nat))).size ≤ 9223372036854775807 from by
        have h1 := sz_num ns
        have h2 := sz_pts ps
        have h3 := sz_p2 b
        simp only [sz_ap, sz_b4, sz_mgW, sz_mgK]
        omega)
      (And.intro (show sml2 b from hb)
      (And.intro (show GivesE Try.prog 16 [.rz [.l (ptsC ps)] ps.length] (.tp [.v (.string (ofL (ptsB ps))), .v (.int .i64 0)]) from ⟨fun vs w => Go.Proofs.enters_of (P := Try.prog) Try.func16 (by kernel_rfl) rfl vs w, pts_yes ps (by omega) hsp h1⟩)
      (And.intro (show decide (((ps.length : Nat) : Int) > 4096) = false from decide_eq_false (by omega))
      (And.intro (show GivesE Try.prog 15 [.ags [.z [.l (ptsC ps)] ps.length, .c (.n 6 b.1.1), .c (.n 6 b.1.2), .c (.n 6 b.2.1.1), .c (.n 6 b.2.1.2), .c (.c (.bool b.2.2))]] (.tp [.v (.string (ofL (keyB ps ps.length ++ p2S b))), .v (.int .i64 0)]) from ⟨fun vs w => Go.Proofs.enters_of (P := Try.prog) Try.func15 (by kernel_rfl) rfl vs w, key_ok ps b (by omega) hsp hb h1 h2⟩)
      (And.intro (show GivesE Try.prog 10 [.rz [.l (numC 4 ns)] ns.length] (.v (.bool false)) from ⟨fun vs w => Go.Proofs.enters_of (P := Try.prog) Try.func10 (by kernel_rfl) rfl vs w, lclean_no ns (by omega) hbn hc⟩)
      (And.intro (show decide (((ns.length : Nat) : Int) > 64) = false from decide_eq_false (by omega))
      (And.intro (show GivesE Try.prog 14 [.rz [.l (numC 4 ns)] ns.length] (.tp [.v (.string (ofL [])), .v (.int .i64 1)]) from ⟨fun vs w => Go.Proofs.enters_of (P := Try.prog) Try.func14 (by kernel_rfl) rfl vs w, pub_un ns hl hbn hc⟩)
      (And.intro (show decide (((ps.length : Nat) : Int) > 20) = false from decide_eq_false (by omega))
      (And.intro (show decide (((ns.length : Nat) : Int) > 100) = false from decide_eq_false (by omega)) trivial))))))))))))))))))
theorem fr_AAb1 (ns : List Nat) (ps : List A1) (b : A2) (hbn : sm4 ns) (hsp : smP1 ps) (hb : sml2 b) (hn : ns.length ≤ 100) (hp : ps.length ≤ 20) (hl : ns.length ≤ 64) (hc : ¬ cleanN ns) (h1 : ptE ps ≠ 0) : Gives Try.prog 4 [.rz [.l (numC 4 ns)] ns.length, .ags [.z [.l (ptsC ps)] ps.length, .c (.n 6 b.1.1), .c (.n 6 b.1.2), .c (.n 6 b.2.1.1), .c (.n 6 b.2.1.2), .c (.c (.bool b.2.2))]] (.v (.bool true)) := by
  exact fn_gives_at (P := Try.prog) (X := rulesY _) (env := [eFAlive, eLCnt, ePut2T]) ⟨eFAlive_ok, eLCnt_ok, ePut2T_ok, trivial⟩ Try.func4 1 (oL [(12, wF), (16, wF), (24, { ch := 0, hi := fun _ => 0, ex := 7, av := fun _ => .tp [.v (.string (ofL [])), .v (.int .i64 1)] }), (33, wF), (36, { ch := 0, hi := fun _ => 0, ex := 7, av := fun _ => .v (.bool false) }), (41, { ch := 0, hi := fun _ => 0, ex := 7, av := fun _ => .tp [.v (.string (ofL [])), .v (.int .i64 (ptE ps))] }), (50, wF), (53, { ch := 0, hi := fun _ => 0, ex := 7, av := fun _ => .tp [.v (.string (ofL [])), .v (.int .i64 (ptE ps))] }), (61, wO 0), (68, wF), (76, rO 6 0), (78, { ch := 0, hi := fun _ => 0, ex := 7, av := fun _ => .v (.string (ofL (numB ns))) }), (79, rO 6 0), (90, wT), (101, rO 6 0), (103, rO 6 0), (105, rO 6 0), (110, wT), (113, wT), (116, wT)]) (by kernel_rfl) ⟨_, rfl⟩
    (And.intro (show ((ofL []).toList == (ofL []).toList) = true from by simp)
      (And.intro (show ((ptE ps) == (ptE ps)) = true from by simp)
      (And.intro (show ((ptE ps) != 0) = true from by simpa using h1)
      (And.intro (show (ofL ((mgK ++ (b4 .i64 (ps.length : Nat))) ++ [])).size + (ofL (p2S b)).size ≤ 9223372036854775807 from by
        have h3 := sz_p2 b
        have h4 : (ofL []).size = 0 := rfl
        simp only [sz_ap, sz_b4, sz_mgK, h4]
        omega)
      (And.intro (show (ofL (mgK ++ (b4 .i64 (ps.length : Nat)))).size + (ofL []).size ≤ 9223372036854775807 from by simp only [sz_ap, sz_b4, sz_mgK]; decide)
      (And.intro (show (ofL mgK).size + (ofL (b4 .i64 (ps.length : Nat))).size ≤ 9223372036854775807 from by
        have h1 := sz_num ns
        have h2 := sz_pts ps
        have h3 := sz_p2 b
        simp only [sz_ap, sz_b4, sz_mgW, sz_mgK]
        omega)
      (And.intro (show ((ofL []).toList == (ofL []).toList) = true from by simp)
      (And.intro (show (ofL (mgW ++ (b4 .i64 (ns.length : Nat)))).size + (ofL (numB ns)).size ≤ 9223372036854775807 from by
        have h1 := sz_num ns
        have h2 := sz_pts ps
        have h3 := sz_p2 b
        simp only [sz_ap, sz_b4, sz_mgW, sz_mgK]
        omega)
      (And.intro (show GivesE Try.prog 11 [.rz [.l (numC 4 ns)] ns.length] (.v (.string (ofL (numB ns)))) from ⟨fun vs w => Go.Proofs.enters_of (P := Try.prog) Try.func11 (by kernel_rfl) rfl vs w, lnum ns (by omega) hbn⟩)
      (And.intro (show (ofL mgW).size + (ofL (b4 .i64 (ns.length : Nat))).size ≤ 9223372036854775807 from by
        have h1 := sz_num ns
        have h2 := sz_pts ps
        have h3 := sz_p2 b
        simp only [sz_ap, sz_b4, sz_mgW, sz_mgK]
        omega)
      (And.intro (show (ptE ps == 0) = false from by simpa using h1)
      (And.intro (show sml2 b from hb)
      (And.intro (show GivesE Try.prog 16 [.rz [.l (ptsC ps)] ps.length] (.tp [.v (.string (ofL [])), .v (.int .i64 (ptE ps))]) from ⟨fun vs w => Go.Proofs.enters_of (P := Try.prog) Try.func16 (by kernel_rfl) rfl vs w, pts_no ps (by omega) hsp h1⟩)
      (And.intro (show decide (((ps.length : Nat) : Int) > 4096) = false from decide_eq_false (by omega))
      (And.intro (show GivesE Try.prog 15 [.ags [.z [.l (ptsC ps)] ps.length, .c (.n 6 b.1.1), .c (.n 6 b.1.2), .c (.n 6 b.2.1.1), .c (.n 6 b.2.1.2), .c (.c (.bool b.2.2))]] (.tp [.v (.string (ofL [])), .v (.int .i64 (ptE ps))]) from ⟨fun vs w => Go.Proofs.enters_of (P := Try.prog) Try.func15 (by kernel_rfl) rfl vs w, key_e1 ps b (by omega) hsp hb h1⟩)
      (And.intro (show GivesE Try.prog 10 [.rz [.l (numC 4 ns)] ns.length] (.v (.bool false)) from ⟨fun vs w => Go.Proofs.enters_of (P := Try.prog) Try.func10 (by kernel_rfl) rfl vs w, lclean_no ns (by omega) hbn hc⟩)
      (And.intro (show decide (((ns.length : Nat) : Int) > 64) = false from decide_eq_false (by omega))
      (And.intro (show GivesE Try.prog 14 [.rz [.l (numC 4 ns)] ns.length] (.tp [.v (.string (ofL [])), .v (.int .i64 1)]) from ⟨fun vs w => Go.Proofs.enters_of (P := Try.prog) Try.func14 (by kernel_rfl) rfl vs w, pub_un ns hl hbn hc⟩)
      (And.intro (show decide (((ps.length : Nat) : Int) > 20) = false from decide_eq_false (by omega))
      (And.intro (show decide (((ns.length : Nat) : Int) > 100) = false from decide_eq_false (by omega)) trivial))))))))))))))))))))
theorem fr_AAb2 (ns : List Nat) (ps : List A1) (b : A2) (hbn : sm4 ns) (hsp : smP1 ps) (hb : sml2 b) (hn : ns.length ≤ 100) (hp : ps.length ≤ 20) (hl : ns.length ≤ 64) (hc : ¬ cleanN ns) (h1 : ptE ps = 0) (h2 : p2E b ≠ 0) : Gives Try.prog 4 [.rz [.l (numC 4 ns)] ns.length, .ags [.z [.l (ptsC ps)] ps.length, .c (.n 6 b.1.1), .c (.n 6 b.1.2), .c (.n 6 b.2.1.1), .c (.n 6 b.2.1.2), .c (.c (.bool b.2.2))]] (.v (.bool true)) := by
  exact fn_gives_at (P := Try.prog) (X := rulesY _) (env := [eFAlive, eLCnt, ePut2T]) ⟨eFAlive_ok, eLCnt_ok, ePut2T_ok, trivial⟩ Try.func4 1 (oL [(12, wF), (16, wF), (24, { ch := 0, hi := fun _ => 0, ex := 7, av := fun _ => .tp [.v (.string (ofL [])), .v (.int .i64 1)] }), (33, wF), (36, { ch := 0, hi := fun _ => 0, ex := 7, av := fun _ => .v (.bool false) }), (41, { ch := 0, hi := fun _ => 0, ex := 7, av := fun _ => .tp [.v (.string (ofL [])), .v (.int .i64 (p2E b))] }), (50, wF), (53, { ch := 0, hi := fun _ => 0, ex := 7, av := fun _ => .tp [.v (.string (ofL (ptsB ps))), .v (.int .i64 0)] }), (61, wO 0), (78, rO 6 0), (80, { ch := 0, hi := fun _ => 0, ex := 7, av := fun _ => .v (.string (ofL (numB ns))) }), (81, rO 6 0), (92, wT), (103, rO 6 0), (105, rO 6 0), (107, rO 6 0), (112, wT), (115, wT), (118, wT)]) (by kernel_rfl) ⟨_, rfl⟩
    (And.intro (show ((ofL []).toList == (ofL []).toList) = true from by simp)
      (And.intro (show ((p2E b) == (p2E b)) = true from by simp)
      (And.intro (show ((p2E b) != 0) = true from by simpa using h2)
      (And.intro (show (ofL ((mgK ++ (b4 .i64 (ps.length : Nat))) ++ (ptsB ps))).size + (ofL (p2S b)).size ≤ 9223372036854775807 from by
        have h1 := sz_num ns
        have h2 := sz_pts ps
        have h3 := sz_p2 b
        simp only [sz_ap, sz_b4, sz_mgW, sz_mgK]
        omega)
      (And.intro (show (ofL (mgK ++ (b4 .i64 (ps.length : Nat)))).size + (ofL (ptsB ps)).size ≤ 9223372036854775807 from by
        have h1 := sz_num ns
        have h2 := sz_pts ps
        have h3 := sz_p2 b
        simp only [sz_ap, sz_b4, sz_mgW, sz_mgK]
        omega)
      (And.intro (show (ofL mgK).size + (ofL (b4 .i64 (ps.length : Nat))).size ≤ 9223372036854775807 from by
        have h1 := sz_num ns
        have h2 := sz_pts ps
        have h3 := sz_p2 b
        simp only [sz_ap, sz_b4, sz_mgW, sz_mgK]
        omega)
      (And.intro (show ((ofL []).toList == (ofL []).toList) = true from by simp)
      (And.intro (show (ofL (mgW ++ (b4 .i64 (ns.length : Nat)))).size + (ofL (numB ns)).size ≤ 9223372036854775807 from by
        have h1 := sz_num ns
        have h2 := sz_pts ps
        have h3 := sz_p2 b
        simp only [sz_ap, sz_b4, sz_mgW, sz_mgK]
        omega)
      (And.intro (show GivesE Try.prog 11 [.rz [.l (numC 4 ns)] ns.length] (.v (.string (ofL (numB ns)))) from ⟨fun vs w => Go.Proofs.enters_of (P := Try.prog) Try.func11 (by kernel_rfl) rfl vs w, lnum ns (by omega) hbn⟩)
      (And.intro (show (ofL mgW).size + (ofL (b4 .i64 (ns.length : Nat))).size ≤ 9223372036854775807 from by
        have h1 := sz_num ns
        have h2 := sz_pts ps
        have h3 := sz_p2 b
        simp only [sz_ap, sz_b4, sz_mgW, sz_mgK]
        omega)
      (And.intro (show sml2 b from hb)
      (And.intro (show GivesE Try.prog 16 [.rz [.l (ptsC ps)] ps.length] (.tp [.v (.string (ofL (ptsB ps))), .v (.int .i64 0)]) from ⟨fun vs w => Go.Proofs.enters_of (P := Try.prog) Try.func16 (by kernel_rfl) rfl vs w, pts_yes ps (by omega) hsp h1⟩)
      (And.intro (show decide (((ps.length : Nat) : Int) > 4096) = false from decide_eq_false (by omega))
      (And.intro (show GivesE Try.prog 15 [.ags [.z [.l (ptsC ps)] ps.length, .c (.n 6 b.1.1), .c (.n 6 b.1.2), .c (.n 6 b.2.1.1), .c (.n 6 b.2.1.2), .c (.c (.bool b.2.2))]] (.tp [.v (.string (ofL [])), .v (.int .i64 (p2E b))]) from ⟨fun vs w => Go.Proofs.enters_of (P := Try.prog) Try.func15 (by kernel_rfl) rfl vs w, key_e2 ps b (by omega) hsp hb h1 h2⟩)
      (And.intro (show GivesE Try.prog 10 [.rz [.l (numC 4 ns)] ns.length] (.v (.bool false)) from ⟨fun vs w => Go.Proofs.enters_of (P := Try.prog) Try.func10 (by kernel_rfl) rfl vs w, lclean_no ns (by omega) hbn hc⟩)
      (And.intro (show decide (((ns.length : Nat) : Int) > 64) = false from decide_eq_false (by omega))
      (And.intro (show GivesE Try.prog 14 [.rz [.l (numC 4 ns)] ns.length] (.tp [.v (.string (ofL [])), .v (.int .i64 1)]) from ⟨fun vs w => Go.Proofs.enters_of (P := Try.prog) Try.func14 (by kernel_rfl) rfl vs w, pub_un ns hl hbn hc⟩)
      (And.intro (show decide (((ps.length : Nat) : Int) > 20) = false from decide_eq_false (by omega))
      (And.intro (show decide (((ns.length : Nat) : Int) > 100) = false from decide_eq_false (by omega)) trivial)))))))))))))))))))
theorem fr_AAc0 (ns : List Nat) (ps : List A1) (b : A2) (hbn : sm4 ns) (hsp : smP1 ps) (hb : sml2 b) (hn : ns.length ≤ 100) (hp : ps.length ≤ 20) (hl : ns.length ≤ 64) (hc : cleanN ns) (h1 : ptE ps = 0) (h2 : p2E b = 0) : Gives Try.prog 4 [.rz [.l (numC 4 ns)] ns.length, .ags [.z [.l (ptsC ps)] ps.length, .c (.n 6 b.1.1), .c (.n 6 b.1.2), .c (.n 6 b.2.1.1), .c (.n 6 b.2.1.2), .c (.c (.bool b.2.2))]] (.v (.bool true)) := by
  exact fn_gives_at (P := Try.prog) (X := rulesY _) (env := [eFAlive, eLCnt, ePut2T]) ⟨eFAlive_ok, eLCnt_ok, ePut2T_ok, trivial⟩ Try.func4 1 (oL [(12, wF), (16, wF), (24, { ch := 0, hi := fun _ => 0, ex := 7, av := fun _ => .tp [.v (.string (ofL (pubB ns ns.length))), .v (.int .i64 0)] }), (33, wF), (36, { ch := 0, hi := fun _ => 0, ex := 7, av := fun _ => .v (.bool true) }), (40, { ch := 0, hi := fun _ => 0, ex := 7, av := fun _ => .tp [.v (.string (ofL (keyB ps ps.length ++ p2S b))), .v (.int .i64 0)] }), (49, wF), (52, { ch := 0, hi := fun _ => 0, ex := 7, av := fun _ => .tp [.v (.string (ofL (ptsB ps))), .v (.int .i64 0)] }), (60, wO 0), (77, rO 6 0), (79, { ch := 0, hi := fun _ => 0, ex := 7, av := fun _ => .v (.string (ofL (numB ns))) }), (80, rO 6 0), (91, wT), (102, rO 6 0), (104, rO 6 0), (106, rO 6 0), (111, wF), (117, wT)]) (by kernel_rfl) ⟨_, rfl⟩
    (And.intro (show ((ofL (keyB ps ps.length ++ p2S b)).toList == (ofL (((mgK ++ (b4 .i64 (ps.length : Nat))) ++ (ptsB ps)) ++ p2S b)).toList) = true from by unfold keyB; rw [List.take_length]; simp)
      (And.intro (show (p2E b != 0) = false from by rw [h2]; rfl)
      (And.intro (show (ofL ((mgK ++ (b4 .i64 (ps.length : Nat))) ++ (ptsB ps))).size + (ofL (p2S b)).size ≤ 9223372036854775807 from by
        have h1 := sz_num ns
        have h2 := sz_pts ps
        have h3 := sz_p2 b
        simp only [sz_ap, sz_b4, sz_mgW, sz_mgK]
        omega)
      (And.intro (show (ofL (mgK ++ (b4 .i64 (ps.length : Nat)))).size + (ofL (ptsB ps)).size ≤ 9223372036854775807 from by
        have h1 := sz_num ns
        have h2 := sz_pts ps
        have h3 := sz_p2 b
        simp only [sz_ap, sz_b4, sz_mgW, sz_mgK]
        omega)
      (And.intro (show (ofL mgK).size + (ofL (b4 .i64 (ps.length : Nat))).size ≤ 9223372036854775807 from by
        have h1 := sz_num ns
        have h2 := sz_pts ps
        have h3 := sz_p2 b
        simp only [sz_ap, sz_b4, sz_mgW, sz_mgK]
        omega)
      (And.intro (show ((ofL (pubB ns ns.length)).toList == (ofL ((mgW ++ (b4 .i64 (ns.length : Nat))) ++ numB ns)).toList) = true from by unfold pubB; rw [List.take_length]; simp)
      (And.intro (show (ofL (mgW ++ (b4 .i64 (ns.length : Nat)))).size + (ofL (numB ns)).size ≤ 9223372036854775807 from by
        have h1 := sz_num ns
        have h2 := sz_pts ps
        have h3 := sz_p2 b
        simp only [sz_ap, sz_b4, sz_mgW, sz_mgK]
        omega)
      (And.intro (show GivesE Try.prog 11 [.rz [.l (numC 4 ns)] ns.length] (.v (.string (ofL (numB ns)))) from ⟨fun vs w => Go.Proofs.enters_of (P := Try.prog) Try.func11 (by kernel_rfl) rfl vs w, lnum ns (by omega) hbn⟩)
      (And.intro (show (ofL mgW).size + (ofL (b4 .i64 (ns.length : Nat))).size ≤ 9223372036854775807 from by
        have h1 := sz_num ns
        have h2 := sz_pts ps
        have h3 := sz_p2 b
        simp only [sz_ap, sz_b4, sz_mgW, sz_mgK]
        omega)
      (And.intro (show sml2 b from hb)
      (And.intro (show GivesE Try.prog 16 [.rz [.l (ptsC ps)] ps.length] (.tp [.v (.string (ofL (ptsB ps))), .v (.int .i64 0)]) from ⟨fun vs w => Go.Proofs.enters_of (P := Try.prog) Try.func16 (by kernel_rfl) rfl vs w, pts_yes ps (by omega) hsp h1⟩)
      (And.intro (show decide (((ps.length : Nat) : Int) > 4096) = false from decide_eq_false (by omega))
      (And.intro (show GivesE Try.prog 15 [.ags [.z [.l (ptsC ps)] ps.length, .c (.n 6 b.1.1), .c (.n 6 b.1.2), .c (.n 6 b.2.1.1), .c (.n 6 b.2.1.2), .c (.c (.bool b.2.2))]] (.tp [.v (.string (ofL (keyB ps ps.length ++ p2S b))), .v (.int .i64 0)]) from ⟨fun vs w => Go.Proofs.enters_of (P := Try.prog) Try.func15 (by kernel_rfl) rfl vs w, key_ok ps b (by omega) hsp hb h1 h2⟩)
      (And.intro (show GivesE Try.prog 10 [.rz [.l (numC 4 ns)] ns.length] (.v (.bool true)) from ⟨fun vs w => Go.Proofs.enters_of (P := Try.prog) Try.func10 (by kernel_rfl) rfl vs w, lclean_yes ns (by omega) hbn hc⟩)
      (And.intro (show decide (((ns.length : Nat) : Int) > 64) = false from decide_eq_false (by omega))
      (And.intro (show GivesE Try.prog 14 [.rz [.l (numC 4 ns)] ns.length] (.tp [.v (.string (ofL (pubB ns ns.length))), .v (.int .i64 0)]) from ⟨fun vs w => Go.Proofs.enters_of (P := Try.prog) Try.func14 (by kernel_rfl) rfl vs w, pub_ok ns hl hbn hc⟩)
      (And.intro (show decide (((ps.length : Nat) : Int) > 20) = false from decide_eq_false (by omega))
      (And.intro (show decide (((ns.length : Nat) : Int) > 100) = false from decide_eq_false (by omega)) trivial))))))))))))))))))
theorem fr_AAc1 (ns : List Nat) (ps : List A1) (b : A2) (hbn : sm4 ns) (hsp : smP1 ps) (hb : sml2 b) (hn : ns.length ≤ 100) (hp : ps.length ≤ 20) (hl : ns.length ≤ 64) (hc : cleanN ns) (h1 : ptE ps ≠ 0) : Gives Try.prog 4 [.rz [.l (numC 4 ns)] ns.length, .ags [.z [.l (ptsC ps)] ps.length, .c (.n 6 b.1.1), .c (.n 6 b.1.2), .c (.n 6 b.2.1.1), .c (.n 6 b.2.1.2), .c (.c (.bool b.2.2))]] (.v (.bool true)) := by
  exact fn_gives_at (P := Try.prog) (X := rulesY _) (env := [eFAlive, eLCnt, ePut2T]) ⟨eFAlive_ok, eLCnt_ok, ePut2T_ok, trivial⟩ Try.func4 1 (oL [(12, wF), (16, wF), (24, { ch := 0, hi := fun _ => 0, ex := 7, av := fun _ => .tp [.v (.string (ofL (pubB ns ns.length))), .v (.int .i64 0)] }), (33, wF), (36, { ch := 0, hi := fun _ => 0, ex := 7, av := fun _ => .v (.bool true) }), (40, { ch := 0, hi := fun _ => 0, ex := 7, av := fun _ => .tp [.v (.string (ofL [])), .v (.int .i64 (ptE ps))] }), (49, wF), (52, { ch := 0, hi := fun _ => 0, ex := 7, av := fun _ => .tp [.v (.string (ofL [])), .v (.int .i64 (ptE ps))] }), (60, wO 0), (67, wF), (75, rO 6 0), (77, { ch := 0, hi := fun _ => 0, ex := 7, av := fun _ => .v (.string (ofL (numB ns))) }), (78, rO 6 0), (89, wT), (100, rO 6 0), (102, rO 6 0), (104, rO 6 0), (109, wT), (112, wT), (115, wT)]) (by kernel_rfl) ⟨_, rfl⟩
    (And.intro (show ((ofL []).toList == (ofL []).toList) = true from by simp)
      (And.intro (show ((ptE ps) == (ptE ps)) = true from by simp)
      (And.intro (show ((ptE ps) != 0) = true from by simpa using h1)
      (And.intro (show (ofL ((mgK ++ (b4 .i64 (ps.length : Nat))) ++ [])).size + (ofL (p2S b)).size ≤ 9223372036854775807 from by
        have h3 := sz_p2 b
        have h4 : (ofL []).size = 0 := rfl
        simp only [sz_ap, sz_b4, sz_mgK, h4]
        omega)
      (And.intro (show (ofL (mgK ++ (b4 .i64 (ps.length : Nat)))).size + (ofL []).size ≤ 9223372036854775807 from by simp only [sz_ap, sz_b4, sz_mgK]; decide)
      (And.intro (show (ofL mgK).size + (ofL (b4 .i64 (ps.length : Nat))).size ≤ 9223372036854775807 from by
        have h1 := sz_num ns
        have h2 := sz_pts ps
        have h3 := sz_p2 b
        simp only [sz_ap, sz_b4, sz_mgW, sz_mgK]
        omega)
      (And.intro (show ((ofL (pubB ns ns.length)).toList == (ofL ((mgW ++ (b4 .i64 (ns.length : Nat))) ++ numB ns)).toList) = true from by unfold pubB; rw [List.take_length]; simp)
      (And.intro (show (ofL (mgW ++ (b4 .i64 (ns.length : Nat)))).size + (ofL (numB ns)).size ≤ 9223372036854775807 from by
        have h1 := sz_num ns
        have h2 := sz_pts ps
        have h3 := sz_p2 b
        simp only [sz_ap, sz_b4, sz_mgW, sz_mgK]
        omega)
      (And.intro (show GivesE Try.prog 11 [.rz [.l (numC 4 ns)] ns.length] (.v (.string (ofL (numB ns)))) from ⟨fun vs w => Go.Proofs.enters_of (P := Try.prog) Try.func11 (by kernel_rfl) rfl vs w, lnum ns (by omega) hbn⟩)
      (And.intro (show (ofL mgW).size + (ofL (b4 .i64 (ns.length : Nat))).size ≤ 9223372036854775807 from by
        have h1 := sz_num ns
        have h2 := sz_pts ps
        have h3 := sz_p2 b
        simp only [sz_ap, sz_b4, sz_mgW, sz_mgK]
        omega)
      (And.intro (show (ptE ps == 0) = false from by simpa using h1)
      (And.intro (show sml2 b from hb)
      (And.intro (show GivesE Try.prog 16 [.rz [.l (ptsC ps)] ps.length] (.tp [.v (.string (ofL [])), .v (.int .i64 (ptE ps))]) from ⟨fun vs w => Go.Proofs.enters_of (P := Try.prog) Try.func16 (by kernel_rfl) rfl vs w, pts_no ps (by omega) hsp h1⟩)
      (And.intro (show decide (((ps.length : Nat) : Int) > 4096) = false from decide_eq_false (by omega))
      (And.intro (show GivesE Try.prog 15 [.ags [.z [.l (ptsC ps)] ps.length, .c (.n 6 b.1.1), .c (.n 6 b.1.2), .c (.n 6 b.2.1.1), .c (.n 6 b.2.1.2), .c (.c (.bool b.2.2))]] (.tp [.v (.string (ofL [])), .v (.int .i64 (ptE ps))]) from ⟨fun vs w => Go.Proofs.enters_of (P := Try.prog) Try.func15 (by kernel_rfl) rfl vs w, key_e1 ps b (by omega) hsp hb h1⟩)
      (And.intro (show GivesE Try.prog 10 [.rz [.l (numC 4 ns)] ns.length] (.v (.bool true)) from ⟨fun vs w => Go.Proofs.enters_of (P := Try.prog) Try.func10 (by kernel_rfl) rfl vs w, lclean_yes ns (by omega) hbn hc⟩)
      (And.intro (show decide (((ns.length : Nat) : Int) > 64) = false from decide_eq_false (by omega))
      (And.intro (show GivesE Try.prog 14 [.rz [.l (numC 4 ns)] ns.length] (.tp [.v (.string (ofL (pubB ns ns.length))), .v (.int .i64 0)]) from ⟨fun vs w => Go.Proofs.enters_of (P := Try.prog) Try.func14 (by kernel_rfl) rfl vs w, pub_ok ns hl hbn hc⟩)
      (And.intro (show decide (((ps.length : Nat) : Int) > 20) = false from decide_eq_false (by omega))
      (And.intro (show decide (((ns.length : Nat) : Int) > 100) = false from decide_eq_false (by omega)) trivial))))))))))))))))))))
theorem fr_AAc2 (ns : List Nat) (ps : List A1) (b : A2) (hbn : sm4 ns) (hsp : smP1 ps) (hb : sml2 b) (hn : ns.length ≤ 100) (hp : ps.length ≤ 20) (hl : ns.length ≤ 64) (hc : cleanN ns) (h1 : ptE ps = 0) (h2 : p2E b ≠ 0) : Gives Try.prog 4 [.rz [.l (numC 4 ns)] ns.length, .ags [.z [.l (ptsC ps)] ps.length, .c (.n 6 b.1.1), .c (.n 6 b.1.2), .c (.n 6 b.2.1.1), .c (.n 6 b.2.1.2), .c (.c (.bool b.2.2))]] (.v (.bool true)) := by
  exact fn_gives_at (P := Try.prog) (X := rulesY _) (env := [eFAlive, eLCnt, ePut2T]) ⟨eFAlive_ok, eLCnt_ok, ePut2T_ok, trivial⟩ Try.func4 1 (oL [(12, wF), (16, wF), (24, { ch := 0, hi := fun _ => 0, ex := 7, av := fun _ => .tp [.v (.string (ofL (pubB ns ns.length))), .v (.int .i64 0)] }), (33, wF), (36, { ch := 0, hi := fun _ => 0, ex := 7, av := fun _ => .v (.bool true) }), (40, { ch := 0, hi := fun _ => 0, ex := 7, av := fun _ => .tp [.v (.string (ofL [])), .v (.int .i64 (p2E b))] }), (49, wF), (52, { ch := 0, hi := fun _ => 0, ex := 7, av := fun _ => .tp [.v (.string (ofL (ptsB ps))), .v (.int .i64 0)] }), (60, wO 0), (77, rO 6 0), (79, { ch := 0, hi := fun _ => 0, ex := 7, av := fun _ => .v (.string (ofL (numB ns))) }), (80, rO 6 0), (91, wT), (102, rO 6 0), (104, rO 6 0), (106, rO 6 0), (111, wT), (114, wT), (117, wT)]) (by kernel_rfl) ⟨_, rfl⟩
    (And.intro (show ((ofL []).toList == (ofL []).toList) = true from by simp)
      (And.intro (show ((p2E b) == (p2E b)) = true from by simp)
      (And.intro (show ((p2E b) != 0) = true from by simpa using h2)
      (And.intro (show (ofL ((mgK ++ (b4 .i64 (ps.length : Nat))) ++ (ptsB ps))).size + (ofL (p2S b)).size ≤ 9223372036854775807 from by
        have h1 := sz_num ns
        have h2 := sz_pts ps
        have h3 := sz_p2 b
        simp only [sz_ap, sz_b4, sz_mgW, sz_mgK]
        omega)
      (And.intro (show (ofL (mgK ++ (b4 .i64 (ps.length : Nat)))).size + (ofL (ptsB ps)).size ≤ 9223372036854775807 from by
        have h1 := sz_num ns
        have h2 := sz_pts ps
        have h3 := sz_p2 b
        simp only [sz_ap, sz_b4, sz_mgW, sz_mgK]
        omega)
      (And.intro (show (ofL mgK).size + (ofL (b4 .i64 (ps.length : Nat))).size ≤ 9223372036854775807 from by
        have h1 := sz_num ns
        have h2 := sz_pts ps
        have h3 := sz_p2 b
        simp only [sz_ap, sz_b4, sz_mgW, sz_mgK]
        omega)
      (And.intro (show ((ofL (pubB ns ns.length)).toList == (ofL ((mgW ++ (b4 .i64 (ns.length : Nat))) ++ numB ns)).toList) = true from by unfold pubB; rw [List.take_length]; simp)
      (And.intro (show (ofL (mgW ++ (b4 .i64 (ns.length : Nat)))).size + (ofL (numB ns)).size ≤ 9223372036854775807 from by
        have h1 := sz_num ns
        have h2 := sz_pts ps
        have h3 := sz_p2 b
        simp only [sz_ap, sz_b4, sz_mgW, sz_mgK]
        omega)
      (And.intro (show GivesE Try.prog 11 [.rz [.l (numC 4 ns)] ns.length] (.v (.string (ofL (numB ns)))) from ⟨fun vs w => Go.Proofs.enters_of (P := Try.prog) Try.func11 (by kernel_rfl) rfl vs w, lnum ns (by omega) hbn⟩)
      (And.intro (show (ofL mgW).size + (ofL (b4 .i64 (ns.length : Nat))).size ≤ 9223372036854775807 from by
        have h1 := sz_num ns
        have h2 := sz_pts ps
        have h3 := sz_p2 b
        simp only [sz_ap, sz_b4, sz_mgW, sz_mgK]
        omega)
      (And.intro (show sml2 b from hb)
      (And.intro (show GivesE Try.prog 16 [.rz [.l (ptsC ps)] ps.length] (.tp [.v (.string (ofL (ptsB ps))), .v (.int .i64 0)]) from ⟨fun vs w => Go.Proofs.enters_of (P := Try.prog) Try.func16 (by kernel_rfl) rfl vs w, pts_yes ps (by omega) hsp h1⟩)
      (And.intro (show decide (((ps.length : Nat) : Int) > 4096) = false from decide_eq_false (by omega))
      (And.intro (show GivesE Try.prog 15 [.ags [.z [.l (ptsC ps)] ps.length, .c (.n 6 b.1.1), .c (.n 6 b.1.2), .c (.n 6 b.2.1.1), .c (.n 6 b.2.1.2), .c (.c (.bool b.2.2))]] (.tp [.v (.string (ofL [])), .v (.int .i64 (p2E b))]) from ⟨fun vs w => Go.Proofs.enters_of (P := Try.prog) Try.func15 (by kernel_rfl) rfl vs w, key_e2 ps b (by omega) hsp hb h1 h2⟩)
      (And.intro (show GivesE Try.prog 10 [.rz [.l (numC 4 ns)] ns.length] (.v (.bool true)) from ⟨fun vs w => Go.Proofs.enters_of (P := Try.prog) Try.func10 (by kernel_rfl) rfl vs w, lclean_yes ns (by omega) hbn hc⟩)
      (And.intro (show decide (((ns.length : Nat) : Int) > 64) = false from decide_eq_false (by omega))
      (And.intro (show GivesE Try.prog 14 [.rz [.l (numC 4 ns)] ns.length] (.tp [.v (.string (ofL (pubB ns ns.length))), .v (.int .i64 0)]) from ⟨fun vs w => Go.Proofs.enters_of (P := Try.prog) Try.func14 (by kernel_rfl) rfl vs w, pub_ok ns hl hbn hc⟩)
      (And.intro (show decide (((ps.length : Nat) : Int) > 20) = false from decide_eq_false (by omega))
      (And.intro (show decide (((ns.length : Nat) : Int) > 100) = false from decide_eq_false (by omega)) trivial)))))))))))))))))))
theorem fr_ABa0 (ns : List Nat) (ps : List A1) (b : A2) (hbn : sm4 ns) (hsp : smP1 ps) (hb : sml2 b) (hn : ns.length ≤ 100) (p0 : List A1) (ep : ps = p0.take 20) (hp0 : 20 < p0.length) (hp4 : p0.length ≤ 4096) (hl : 64 < ns.length) (h1 : ptE ps = 0) (h2 : p2E b = 0) : Gives Try.prog 4 [.rz [.l (numC 4 ns)] ns.length, .ags [.z [.l (ptsC p0)] p0.length, .c (.n 6 b.1.1), .c (.n 6 b.1.2), .c (.n 6 b.2.1.1), .c (.n 6 b.2.1.2), .c (.c (.bool b.2.2))]] (.v (.bool true)) := by
  have hp : ps.length ≤ 20 := by rw [ep, List.length_take]; omega
  exact fn_gives_at (P := Try.prog) (X := rulesY _) (env := [eFAlive, eLCnt, ePut2T]) ⟨eFAlive_ok, eLCnt_ok, ePut2T_ok, trivial⟩ Try.func4 1 (oL [(12, wF), (16, wT), (21, wT), (25, { ch := 0, hi := fun _ => ps.length, ex := 6, cs := fun _ => [.l (ptsC ps)] }), (29, { ch := 0, hi := fun _ => 0, ex := 7, av := fun _ => .tp [.v (.string (ofL [])), .v (.int .i64 1)] }), (38, wT), (46, { ch := 0, hi := fun _ => 0, ex := 7, av := fun _ => .tp [.v (.string (ofL (keyB ps ps.length ++ p2S b))), .v (.int .i64 0)] }), (55, wF), (58, { ch := 0, hi := fun _ => 0, ex := 7, av := fun _ => .tp [.v (.string (ofL (ptsB ps))), .v (.int .i64 0)] }), (66, wO 0), (83, rO 6 0), (85, { ch := 0, hi := fun _ => 0, ex := 7, av := fun _ => .v (.string (ofL (numB ns))) }), (86, rO 6 0), (97, wT), (108, rO 6 0), (110, rO 6 0), (112, rO 6 0), (117, wF), (123, wT)]) (by kernel_rfl) ⟨_, rfl⟩
    (And.intro (show ((ofL (keyB ps ps.length ++ p2S b)).toList == (ofL (((mgK ++ (b4 .i64 (ps.length : Nat))) ++ (ptsB ps)) ++ p2S b)).toList) = true from by unfold keyB; rw [List.take_length]; simp)
      (And.intro (show (p2E b != 0) = false from by rw [h2]; rfl)
      (And.intro (show (ofL ((mgK ++ (b4 .i64 (ps.length : Nat))) ++ (ptsB ps))).size + (ofL (p2S b)).size ≤ 9223372036854775807 from by
        have h1 := sz_num ns
        have h2 := sz_pts ps
        have h3 := sz_p2 b
        simp only [sz_ap, sz_b4, sz_mgW, sz_mgK]
        omega)
      (And.intro (show (ofL (mgK ++ (b4 .i64 (ps.length : Nat)))).size + (ofL (ptsB ps)).size ≤ 9223372036854775807 from by
        have h1 := sz_num ns
        have h2 := sz_pts ps
        have h3 := sz_p2 b
        simp only [sz_ap, sz_b4, sz_mgW, sz_mgK]
        omega)
      (And.intro (show (ofL mgK).size + (ofL (b4 .i64 (ps.length : Nat))).size ≤ 9223372036854775807 from by
        have h1 := sz_num ns
        have h2 := sz_pts ps
        have h3 := sz_p2 b
        simp only [sz_ap, sz_b4, sz_mgW, sz_mgK]
        omega)
      (And.intro (show ((ofL []).toList == (ofL []).toList) = true from by simp)
      (And.intro (show (ofL (mgW ++ (b4 .i64 (ns.length : Nat)))).size + (ofL (numB ns)).size ≤ 9223372036854775807 from by
        have h1 := sz_num ns
        have h2 := sz_pts ps
        have h3 := sz_p2 b
        simp only [sz_ap, sz_b4, sz_mgW, sz_mgK]
        omega)
      (And.intro (show GivesE Try.prog 11 [.rz [.l (numC 4 ns)] ns.length] (.v (.string (ofL (numB ns)))) from ⟨fun vs w => Go.Proofs.enters_of (P := Try.prog) Try.func11 (by kernel_rfl) rfl vs w, lnum ns (by omega) hbn⟩)
      (And.intro (show (ofL mgW).size + (ofL (b4 .i64 (ns.length : Nat))).size ≤ 9223372036854775807 from by
        have h1 := sz_num ns
        have h2 := sz_pts ps
        have h3 := sz_p2 b
        simp only [sz_ap, sz_b4, sz_mgW, sz_mgK]
        omega)
      (And.intro (show sml2 b from hb)
      (And.intro (show GivesE Try.prog 16 [.rz [.l (ptsC ps)] ps.length] (.tp [.v (.string (ofL (ptsB ps))), .v (.int .i64 0)]) from ⟨fun vs w => Go.Proofs.enters_of (P := Try.prog) Try.func16 (by kernel_rfl) rfl vs w, pts_yes ps (by omega) hsp h1⟩)
      (And.intro (show decide (((ps.length : Nat) : Int) > 4096) = false from decide_eq_false (by omega))
      (And.intro (show GivesE Try.prog 15 [.ags [.z [.l (ptsC ps)] ps.length, .c (.n 6 b.1.1), .c (.n 6 b.1.2), .c (.n 6 b.2.1.1), .c (.n 6 b.2.1.2), .c (.c (.bool b.2.2))]] (.tp [.v (.string (ofL (keyB ps ps.length ++ p2S b))), .v (.int .i64 0)]) from ⟨fun vs w => Go.Proofs.enters_of (P := Try.prog) Try.func15 (by kernel_rfl) rfl vs w, key_ok ps b (by omega) hsp hb h1 h2⟩)
      (And.intro (show decide (((ns.length : Nat) : Int) > 64) = true from decide_eq_true (by omega))
      (And.intro (show GivesE Try.prog 14 [.rz [.l (numC 4 ns)] ns.length] (.tp [.v (.string (ofL [])), .v (.int .i64 1)]) from ⟨fun vs w => Go.Proofs.enters_of (P := Try.prog) Try.func14 (by kernel_rfl) rfl vs w, pub_long ns hl⟩)
      (And.intro (show (20 : Int) = ((ps.length : Nat) : Int) ∧ ps.length ≤ p0.length ∧ flat [.l (ptsC ps)] = (flat [.l (ptsC p0)]).take (ps.length * 13) from cutP p0 ps ep hp0)
      (And.intro (show decide (((p0.length : Nat) : Int) ≤ 4096) = true from decide_eq_true (by omega))
      (And.intro (show decide (((p0.length : Nat) : Int) > 20) = true from decide_eq_true (by omega))
      (And.intro (show decide (((ns.length : Nat) : Int) > 100) = false from decide_eq_false (by omega)) trivial)))))))))))))))))))
theorem fr_ABa1 (ns : List Nat) (ps : List A1) (b : A2) (hbn : sm4 ns) (hsp : smP1 ps) (hb : sml2 b) (hn : ns.length ≤ 100) (p0 : List A1) (ep : ps = p0.take 20) (hp0 : 20 < p0.length) (hp4 : p0.length ≤ 4096) (hl : 64 < ns.length) (h1 : ptE ps ≠ 0) : Gives Try.prog 4 [.rz [.l (numC 4 ns)] ns.length, .ags [.z [.l (ptsC p0)] p0.length, .c (.n 6 b.1.1), .c (.n 6 b.1.2), .c (.n 6 b.2.1.1), .c (.n 6 b.2.1.2), .c (.c (.bool b.2.2))]] (.v (.bool true)) := by
  have hp : ps.length ≤ 20 := by rw [ep, List.length_take]; omega
  exact fn_gives_at (P := Try.prog) (X := rulesY _) (env := [eFAlive, eLCnt, ePut2T]) ⟨eFAlive_ok, eLCnt_ok, ePut2T_ok, trivial⟩ Try.func4 1 (oL [(12, wF), (16, wT), (21, wT), (25, { ch := 0, hi := fun _ => ps.length, ex := 6, cs := fun _ => [.l (ptsC ps)] }), (29, { ch := 0, hi := fun _ => 0, ex := 7, av := fun _ => .tp [.v (.string (ofL [])), .v (.int .i64 1)] }), (38, wT), (46, { ch := 0, hi := fun _ => 0, ex := 7, av := fun _ => .tp [.v (.string (ofL [])), .v (.int .i64 (ptE ps))] }), (55, wF), (58, { ch := 0, hi := fun _ => 0, ex := 7, av := fun _ => .tp [.v (.string (ofL [])), .v (.int .i64 (ptE ps))] }), (66, wO 0), (73, wF), (81, rO 6 0), (83, { ch := 0, hi := fun _ => 0, ex := 7, av := fun _ => .v (.string (ofL (numB ns))) }), (84, rO 6 0), (95, wT), (106, rO 6 0), (108, rO 6 0), (110, rO 6 0), (115, wT), (118, wT), (121, wT)]) (by kernel_rfl) ⟨_, rfl⟩
    (And.intro (show ((ofL []).toList == (ofL []).toList) = true from by simp)
      (And.intro (show ((ptE ps) == (ptE ps)) = true from by simp)
      (And.intro (show ((ptE ps) != 0) = true from by simpa using h1)
      (And.intro (show (ofL ((mgK ++ (b4 .i64 (ps.length : Nat))) ++ [])).size + (ofL (p2S b)).size ≤ 9223372036854775807 from by
        have h3 := sz_p2 b
        have h4 : (ofL []).size = 0 := rfl
        simp only [sz_ap, sz_b4, sz_mgK, h4]
        omega)
      (And.intro (show (ofL (mgK ++ (b4 .i64 (ps.length : Nat)))).size + (ofL []).size ≤ 9223372036854775807 from by simp only [sz_ap, sz_b4, sz_mgK]; decide)
      (And.intro (show (ofL mgK).size + (ofL (b4 .i64 (ps.length : Nat))).size ≤ 9223372036854775807 from by
        have h1 := sz_num ns
        have h2 := sz_pts ps
        have h3 := sz_p2 b
        simp only [sz_ap, sz_b4, sz_mgW, sz_mgK]
        omega)
      (And.intro (show ((ofL []).toList == (ofL []).toList) = true from by simp)
      (And.intro (show (ofL (mgW ++ (b4 .i64 (ns.length : Nat)))).size + (ofL (numB ns)).size ≤ 9223372036854775807 from by
        have h1 := sz_num ns
        have h2 := sz_pts ps
        have h3 := sz_p2 b
        simp only [sz_ap, sz_b4, sz_mgW, sz_mgK]
        omega)
      (And.intro (show GivesE Try.prog 11 [.rz [.l (numC 4 ns)] ns.length] (.v (.string (ofL (numB ns)))) from ⟨fun vs w => Go.Proofs.enters_of (P := Try.prog) Try.func11 (by kernel_rfl) rfl vs w, lnum ns (by omega) hbn⟩)
      (And.intro (show (ofL mgW).size + (ofL (b4 .i64 (ns.length : Nat))).size ≤ 9223372036854775807 from by
        have h1 := sz_num ns
        have h2 := sz_pts ps
        have h3 := sz_p2 b
        simp only [sz_ap, sz_b4, sz_mgW, sz_mgK]
        omega)
      (And.intro (show (ptE ps == 0) = false from by simpa using h1)
      (And.intro (show sml2 b from hb)
      (And.intro (show GivesE Try.prog 16 [.rz [.l (ptsC ps)] ps.length] (.tp [.v (.string (ofL [])), .v (.int .i64 (ptE ps))]) from ⟨fun vs w => Go.Proofs.enters_of (P := Try.prog) Try.func16 (by kernel_rfl) rfl vs w, pts_no ps (by omega) hsp h1⟩)
      (And.intro (show decide (((ps.length : Nat) : Int) > 4096) = false from decide_eq_false (by omega))
      (And.intro (show GivesE Try.prog 15 [.ags [.z [.l (ptsC ps)] ps.length, .c (.n 6 b.1.1), .c (.n 6 b.1.2), .c (.n 6 b.2.1.1), .c (.n 6 b.2.1.2), .c (.c (.bool b.2.2))]] (.tp [.v (.string (ofL [])), .v (.int .i64 (ptE ps))]) from ⟨fun vs w => Go.Proofs.enters_of (P := Try.prog) Try.func15 (by kernel_rfl) rfl vs w, key_e1 ps b (by omega) hsp hb h1⟩)
      (And.intro (show decide (((ns.length : Nat) : Int) > 64) = true from decide_eq_true (by omega))
      (And.intro (show GivesE Try.prog 14 [.rz [.l (numC 4 ns)] ns.length] (.tp [.v (.string (ofL [])), .v (.int .i64 1)]) from ⟨fun vs w => Go.Proofs.enters_of (P := Try.prog) Try.func14 (by kernel_rfl) rfl vs w, pub_long ns hl⟩)
      (And.intro (show (20 : Int) = ((ps.length : Nat) : Int) ∧ ps.length ≤ p0.length ∧ flat [.l (ptsC ps)] = (flat [.l (ptsC p0)]).take (ps.length * 13) from cutP p0 ps ep hp0)
      (And.intro (show decide (((p0.length : Nat) : Int) ≤ 4096) = true from decide_eq_true (by omega))
      (And.intro (show decide (((p0.length : Nat) : Int) > 20) = true from decide_eq_true (by omega))
      (And.intro (show decide (((ns.length : Nat) : Int) > 100) = false from decide_eq_false (by omega)) trivial)))))))))))))))))))))
theorem fr_ABa2 (ns : List Nat) (ps : List A1) (b : A2) (hbn : sm4 ns) (hsp : smP1 ps) (hb : sml2 b) (hn : ns.length ≤ 100) (p0 : List A1) (ep : ps = p0.take 20) (hp0 : 20 < p0.length) (hp4 : p0.length ≤ 4096) (hl : 64 < ns.length) (h1 : ptE ps = 0) (h2 : p2E b ≠ 0) : Gives Try.prog 4 [.rz [.l (numC 4 ns)] ns.length, .ags [.z [.l (ptsC p0)] p0.length, .c (.n 6 b.1.1), .c (.n 6 b.1.2), .c (.n 6 b.2.1.1), .c (.n 6 b.2.1.2), .c (.c (.bool b.2.2))]] (.v (.bool true)) := by
  have hp : ps.length ≤ 20 := by rw [ep, List.length_take]; omega
  exact fn_gives_at (P := Try.prog) (X := rulesY _) (env := [eFAlive, eLCnt, ePut2T]) ⟨eFAlive_ok, eLCnt_ok, ePut2T_ok, trivial⟩ Try.func4 1 (oL [(12, wF), (16, wT), (21, wT), (25, { ch := 0, hi := fun _ => ps.length, ex := 6, cs := fun _ => [.l (ptsC ps)] }), (29, { ch := 0, hi := fun _ => 0, ex := 7, av := fun _ => .tp [.v (.string (ofL [])), .v (.int .i64 1)] }), (38, wT), (46, { ch := 0, hi := fun _ => 0, ex := 7, av := fun _ => .tp [.v (.string (ofL [])), .v (.int .i64 (p2E b))] }), (55, wF), (58, { ch := 0, hi := fun _ => 0, ex := 7, av := fun _ => .tp [.v (.string (ofL (ptsB ps))), .v (.int .i64 0)] }), (66, wO 0), (83, rO 6 0), (85, { ch := 0, hi := fun _ => 0, ex := 7, av := fun _ => .v (.string (ofL (numB ns))) }), (86, rO 6 0), (97, wT), (108, rO 6 0), (110, rO 6 0), (112, rO 6 0), (117, wT), (120, wT), (123, wT)]) (by kernel_rfl) ⟨_, rfl⟩
    (And.intro (show ((ofL []).toList == (ofL []).toList) = true from by simp)
      (And.intro (show ((p2E b) == (p2E b)) = true from by simp)
      (And.intro (show ((p2E b) != 0) = true from by simpa using h2)
      (And.intro (show (ofL ((mgK ++ (b4 .i64 (ps.length : Nat))) ++ (ptsB ps))).size + (ofL (p2S b)).size ≤ 9223372036854775807 from by
        have h1 := sz_num ns
        have h2 := sz_pts ps
        have h3 := sz_p2 b
        simp only [sz_ap, sz_b4, sz_mgW, sz_mgK]
        omega)
      (And.intro (show (ofL (mgK ++ (b4 .i64 (ps.length : Nat)))).size + (ofL (ptsB ps)).size ≤ 9223372036854775807 from by
        have h1 := sz_num ns
        have h2 := sz_pts ps
        have h3 := sz_p2 b
        simp only [sz_ap, sz_b4, sz_mgW, sz_mgK]
        omega)
      (And.intro (show (ofL mgK).size + (ofL (b4 .i64 (ps.length : Nat))).size ≤ 9223372036854775807 from by
        have h1 := sz_num ns
        have h2 := sz_pts ps
        have h3 := sz_p2 b
        simp only [sz_ap, sz_b4, sz_mgW, sz_mgK]
        omega)
      (And.intro (show ((ofL []).toList == (ofL []).toList) = true from by simp)
      (And.intro (show (ofL (mgW ++ (b4 .i64 (ns.length : Nat)))).size + (ofL (numB ns)).size ≤ 9223372036854775807 from by
        have h1 := sz_num ns
        have h2 := sz_pts ps
        have h3 := sz_p2 b
        simp only [sz_ap, sz_b4, sz_mgW, sz_mgK]
        omega)
      (And.intro (show GivesE Try.prog 11 [.rz [.l (numC 4 ns)] ns.length] (.v (.string (ofL (numB ns)))) from ⟨fun vs w => Go.Proofs.enters_of (P := Try.prog) Try.func11 (by kernel_rfl) rfl vs w, lnum ns (by omega) hbn⟩)
      (And.intro (show (ofL mgW).size + (ofL (b4 .i64 (ns.length : Nat))).size ≤ 9223372036854775807 from by
        have h1 := sz_num ns
        have h2 := sz_pts ps
        have h3 := sz_p2 b
        simp only [sz_ap, sz_b4, sz_mgW, sz_mgK]
        omega)
      (And.intro (show sml2 b from hb)
      (And.intro (show GivesE Try.prog 16 [.rz [.l (ptsC ps)] ps.length] (.tp [.v (.string (ofL (ptsB ps))), .v (.int .i64 0)]) from ⟨fun vs w => Go.Proofs.enters_of (P := Try.prog) Try.func16 (by kernel_rfl) rfl vs w, pts_yes ps (by omega) hsp h1⟩)
      (And.intro (show decide (((ps.length : Nat) : Int) > 4096) = false from decide_eq_false (by omega))
      (And.intro (show GivesE Try.prog 15 [.ags [.z [.l (ptsC ps)] ps.length, .c (.n 6 b.1.1), .c (.n 6 b.1.2), .c (.n 6 b.2.1.1), .c (.n 6 b.2.1.2), .c (.c (.bool b.2.2))]] (.tp [.v (.string (ofL [])), .v (.int .i64 (p2E b))]) from ⟨fun vs w => Go.Proofs.enters_of (P := Try.prog) Try.func15 (by kernel_rfl) rfl vs w, key_e2 ps b (by omega) hsp hb h1 h2⟩)
      (And.intro (show decide (((ns.length : Nat) : Int) > 64) = true from decide_eq_true (by omega))
      (And.intro (show GivesE Try.prog 14 [.rz [.l (numC 4 ns)] ns.length] (.tp [.v (.string (ofL [])), .v (.int .i64 1)]) from ⟨fun vs w => Go.Proofs.enters_of (P := Try.prog) Try.func14 (by kernel_rfl) rfl vs w, pub_long ns hl⟩)
      (And.intro (show (20 : Int) = ((ps.length : Nat) : Int) ∧ ps.length ≤ p0.length ∧ flat [.l (ptsC ps)] = (flat [.l (ptsC p0)]).take (ps.length * 13) from cutP p0 ps ep hp0)
      (And.intro (show decide (((p0.length : Nat) : Int) ≤ 4096) = true from decide_eq_true (by omega))
      (And.intro (show decide (((p0.length : Nat) : Int) > 20) = true from decide_eq_true (by omega))
      (And.intro (show decide (((ns.length : Nat) : Int) > 100) = false from decide_eq_false (by omega)) trivial))))))))))))))))))))
theorem fr_ABb0 (ns : List Nat) (ps : List A1) (b : A2) (hbn : sm4 ns) (hsp : smP1 ps) (hb : sml2 b) (hn : ns.length ≤ 100) (p0 : List A1) (ep : ps = p0.take 20) (hp0 : 20 < p0.length) (hp4 : p0.length ≤ 4096) (hl : ns.length ≤ 64) (hc : ¬ cleanN ns) (h1 : ptE ps = 0) (h2 : p2E b = 0) : Gives Try.prog 4 [.rz [.l (numC 4 ns)] ns.length, .ags [.z [.l (ptsC p0)] p0.length, .c (.n 6 b.1.1), .c (.n 6 b.1.2), .c (.n 6 b.2.1.1), .c (.n 6 b.2.1.2), .c (.c (.bool b.2.2))]] (.v (.bool true)) := by
  have hp : ps.length ≤ 20 := by rw [ep, List.length_take]; omega
  exact fn_gives_at (P := Try.prog) (X := rulesY _) (env := [eFAlive, eLCnt, ePut2T]) ⟨eFAlive_ok, eLCnt_ok, ePut2T_ok, trivial⟩ Try.func4 1 (oL [(12, wF), (16, wT), (21, wT), (25, { ch := 0, hi := fun _ => ps.length, ex := 6, cs := fun _ => [.l (ptsC ps)] }), (29, { ch := 0, hi := fun _ => 0, ex := 7, av := fun _ => .tp [.v (.string (ofL [])), .v (.int .i64 1)] }), (38, wF), (41, { ch := 0, hi := fun _ => 0, ex := 7, av := fun _ => .v (.bool false) }), (46, { ch := 0, hi := fun _ => 0, ex := 7, av := fun _ => .tp [.v (.string (ofL (keyB ps ps.length ++ p2S b))), .v (.int .i64 0)] }), (55, wF), (58, { ch := 0, hi := fun _ => 0, ex := 7, av := fun _ => .tp [.v (.string (ofL (ptsB ps))), .v (.int .i64 0)] }), (66, wO 0), (83, rO 6 0), (85, { ch := 0, hi := fun _ => 0, ex := 7, av := fun _ => .v (.string (ofL (numB ns))) }), (86, rO 6 0), (97, wT), (108, rO 6 0), (110, rO 6 0), (112, rO 6 0), (117, wF), (123, wT)]) (by kernel_rfl) ⟨_, rfl⟩
    (And.intro (show ((ofL (keyB ps ps.length ++ p2S b)).toList == (ofL (((mgK ++ (b4 .i64 (ps.length : Nat))) ++ (ptsB ps)) ++ p2S b)).toList) = true from by unfold keyB; rw [List.take_length]; simp)
      (And.intro (show (p2E b != 0) = false from by rw [h2]; rfl)
      (And.intro (show (ofL ((mgK ++ (b4 .i64 (ps.length : Nat))) ++ (ptsB ps))).size + (ofL (p2S b)).size ≤ 9223372036854775807 from by
        have h1 := sz_num ns
        have h2 := sz_pts ps
        have h3 := sz_p2 b
        simp only [sz_ap, sz_b4, sz_mgW, sz_mgK]
        omega)
      (And.intro (show (ofL (mgK ++ (b4 .i64 (ps.length : Nat)))).size + (ofL (ptsB ps)).size ≤ 9223372036854775807 from by
        have h1 := sz_num ns
        have h2 := sz_pts ps
        have h3 := sz_p2 b
        simp only [sz_ap, sz_b4, sz_mgW, sz_mgK]
        omega)
      (And.intro (show (ofL mgK).size + (ofL (b4 .i64 (ps.length : Nat))).size ≤ 9223372036854775807 from by
        have h1 := sz_num ns
        have h2 := sz_pts ps
        have h3 := sz_p2 b
        simp only [sz_ap, sz_b4, sz_mgW, sz_mgK]
        omega)
      (And.intro (show ((ofL []).toList == (ofL []).toList) = true from by simp)
      (And.intro (show (ofL (mgW ++ (b4 .i64 (ns.length : Nat)))).size + (ofL (numB ns)).size ≤ 9223372036854775807 from by
        have h1 := sz_num ns
        have h2 := sz_pts ps
        have h3 := sz_p2 b
        simp only [sz_ap, sz_b4, sz_mgW, sz_mgK]
        omega)
      (And.intro (show GivesE Try.prog 11 [.rz [.l (numC 4 ns)] ns.length] (.v (.string (ofL (numB ns)))) from ⟨fun vs w => Go.Proofs.enters_of (P := Try.prog) Try.func11 (by kernel_rfl) rfl vs w, lnum ns (by omega) hbn⟩)
      (And.intro (show (ofL mgW).size + (ofL (b4 .i64 (ns.length : Nat))).size ≤ 9223372036854775807 from by
        have h1 := sz_num ns
        have h2 := sz_pts ps
        have h3 := sz_p2 b
        simp only [sz_ap, sz_b4, sz_mgW, sz_mgK]
        omega)
      (And.intro (show sml2 b from hb)
      (And.intro (show GivesE Try.prog 16 [.rz [.l (ptsC ps)] ps.length] (.tp [.v (.string (ofL (ptsB ps))), .v (.int .i64 0)]) from ⟨fun vs w => Go.Proofs.enters_of (P := Try.prog) Try.func16 (by kernel_rfl) rfl vs w, pts_yes ps (by omega) hsp h1⟩)
      (And.intro (show decide (((ps.length : Nat) : Int) > 4096) = false from decide_eq_false (by omega))
      (And.intro (show GivesE Try.prog 15 [.ags [.z [.l (ptsC ps)] ps.length, .c (.n 6 b.1.1), .c (.n 6 b.1.2), .c (.n 6 b.2.1.1), .c (.n 6 b.2.1.2), .c (.c (.bool b.2.2))]] (.tp [.v (.string (ofL (keyB ps ps.length ++ p2S b))), .v (.int .i64 0)]) from ⟨fun vs w => Go.Proofs.enters_of (P := Try.prog) Try.func15 (by kernel_rfl) rfl vs w, key_ok ps b (by omega) hsp hb h1 h2⟩)
      (And.intro (show GivesE Try.prog 10 [.rz [.l (numC 4 ns)] ns.length] (.v (.bool false)) from ⟨fun vs w => Go.Proofs.enters_of (P := Try.prog) Try.func10 (by kernel_rfl) rfl vs w, lclean_no ns (by omega) hbn hc⟩)
      (And.intro (show decide (((ns.length : Nat) : Int) > 64) = false from decide_eq_false (by omega))
      (And.intro (show GivesE Try.prog 14 [.rz [.l (numC 4 ns)] ns.length] (.tp [.v (.string (ofL [])), .v (.int .i64 1)]) from ⟨fun vs w => Go.Proofs.enters_of (P := Try.prog) Try.func14 (by kernel_rfl) rfl vs w, pub_un ns hl hbn hc⟩)
      (And.intro (show (20 : Int) = ((ps.length : Nat) : Int) ∧ ps.length ≤ p0.length ∧ flat [.l (ptsC ps)] = (flat [.l (ptsC p0)]).take (ps.length * 13) from cutP p0 ps ep hp0)
      (And.intro (show decide (((p0.length : Nat) : Int) ≤ 4096) = true from decide_eq_true (by omega))
      (And.intro (show decide (((p0.length : Nat) : Int) > 20) = true from decide_eq_true (by omega))
      (And.intro (show decide (((ns.length : Nat) : Int) > 100) = false from decide_eq_false (by omega)) trivial))))))))))))))))))))
theorem fr_ABb1 (ns : List Nat) (ps : List A1) (b : A2) (hbn : sm4 ns) (hsp : smP1 ps) (hb : sml2 b) (hn : ns.length ≤ 100) (p0 : List A1) (ep : ps = p0.take 20) (hp0 : 20 < p0.length) (hp4 : p0.length ≤ 4096) (hl : ns.length ≤ 64) (hc : ¬ cleanN ns) (h1 : ptE ps ≠ 0) : Gives Try.prog 4 [.rz [.l (numC 4 ns)] ns.length, .ags [.z [.l (ptsC p0)] p0.length, .c (.n 6 b.1.1), .c (.n 6 b.1.2), .c (.n 6 b.2.1.1), .c (.n 6 b.2.1.2), .c (.c (.bool b.2.2))]] (.v (.bool true)) := by
  have hp : ps.length ≤ 20 := by rw [ep, List.length_take]; omega
  exact fn_gives_at (P := Try.prog) (X := rulesY _) (env := [eFAlive, eLCnt, ePut2T]) ⟨eFAlive_ok, eLCnt_ok, ePut2T_ok, trivial⟩ Try.func4 1 (oL [(12, wF), (16, wT), (21, wT), (25, { ch := 0, hi := fun _ => ps.length, ex := 6, cs := fun _ => [.l (ptsC ps)] }), (29, { ch := 0, hi := fun _ => 0, ex := 7, av := fun _ => .tp [.v (.string (ofL [])), .v (.int .i64 1)] }), (38, wF), (41, { ch := 0, hi := fun _ => 0, ex := 7, av := fun _ => .v (.bool false) }), (46, { ch := 0, hi := fun _ => 0, ex := 7, av := fun _ => .tp [.v (.string (ofL [])), .v (.int .i64 (ptE ps))] }), (55, wF), (58, { ch := 0, hi := fun _ => 0, ex := 7, av := fun _ => .tp [.v (.string (ofL [])), .v (.int .i64 (ptE ps))] }), (66, wO 0), (73, wF), (81, rO 6 0), (83, { ch := 0, hi := fun _ => 0, ex := 7, av := fun _ => .v (.string (ofL (numB ns))) }), (84, rO 6 0), (95, wT), (106, rO 6 0), (108, rO 6 0), (110, rO 6 0), (115, wT), (118, wT), (121, wT)]) (by kernel_rfl) ⟨_, rfl⟩
    (And.intro (show ((ofL []).toList == (ofL []).toList) = true from by simp)
      (And.intro (show ((ptE ps) == (ptE ps)) = true from by simp)
      (And.intro (show ((ptE ps) != 0) = true from by simpa using h1)
      (And.intro (show (ofL ((mgK ++ (b4 .i64 (ps.length : Nat))) ++ [])).size + (ofL (p2S b)).size ≤ 9223372036854775807 from by
        have h3 := sz_p2 b
        have h4 : (ofL []).size = 0 := rfl
        simp only [sz_ap, sz_b4, sz_mgK, h4]
        omega)
      (And.intro (show (ofL (mgK ++ (b4 .i64 (ps.length : Nat)))).size + (ofL []).size ≤ 9223372036854775807 from by simp only [sz_ap, sz_b4, sz_mgK]; decide)
      (And.intro (show (ofL mgK).size + (ofL (b4 .i64 (ps.length : Nat))).size ≤ 9223372036854775807 from by
        have h1 := sz_num ns
        have h2 := sz_pts ps
        have h3 := sz_p2 b
        simp only [sz_ap, sz_b4, sz_mgW, sz_mgK]
        omega)
      (And.intro (show ((ofL []).toList == (ofL []).toList) = true from by simp)
      (And.intro (show (ofL (mgW ++ (b4 .i64 (ns.length : Nat)))).size + (ofL (numB ns)).size ≤ 9223372036854775807 from by
        have h1 := sz_num ns
        have h2 := sz_pts ps
        have h3 := sz_p2 b
        simp only [sz_ap, sz_b4, sz_mgW, sz_mgK]
        omega)
      (And.intro (show GivesE Try.prog 11 [.rz [.l (numC 4 ns)] ns.length] (.v (.string (ofL (numB ns)))) from ⟨fun vs w => Go.Proofs.enters_of (P := Try.prog) Try.func11 (by kernel_rfl) rfl vs w, lnum ns (by omega) hbn⟩)
      (And.intro (show (ofL mgW).size + (ofL (b4 .i64 (ns.length : Nat))).size ≤ 9223372036854775807 from by
        have h1 := sz_num ns
        have h2 := sz_pts ps
        have h3 := sz_p2 b
        simp only [sz_ap, sz_b4, sz_mgW, sz_mgK]
        omega)
      (And.intro (show (ptE ps == 0) = false from by simpa using h1)
      (And.intro (show sml2 b from hb)
      (And.intro (show GivesE Try.prog 16 [.rz [.l (ptsC ps)] ps.length] (.tp [.v (.string (ofL [])), .v (.int .i64 (ptE ps))]) from ⟨fun vs w => Go.Proofs.enters_of (P := Try.prog) Try.func16 (by kernel_rfl) rfl vs w, pts_no ps (by omega) hsp h1⟩)
      (And.intro (show decide (((ps.length : Nat) : Int) > 4096) = false from decide_eq_false (by omega))
      (And.intro (show GivesE Try.prog 15 [.ags [.z [.l (ptsC ps)] ps.length, .c (.n 6 b.1.1), .c (.n 6 b.1.2), .c (.n 6 b.2.1.1), .c (.n 6 b.2.1.2), .c (.c (.bool b.2.2))]] (.tp [.v (.string (ofL [])), .v (.int .i64 (ptE ps))]) from ⟨fun vs w => Go.Proofs.enters_of (P := Try.prog) Try.func15 (by kernel_rfl) rfl vs w, key_e1 ps b (by omega) hsp hb h1⟩)
      (And.intro (show GivesE Try.prog 10 [.rz [.l (numC 4 ns)] ns.length] (.v (.bool false)) from ⟨fun vs w => Go.Proofs.enters_of (P := Try.prog) Try.func10 (by kernel_rfl) rfl vs w, lclean_no ns (by omega) hbn hc⟩)
      (And.intro (show decide (((ns.length : Nat) : Int) > 64) = false from decide_eq_false (by omega))
      (And.intro (show GivesE Try.prog 14 [.rz [.l (numC 4 ns)] ns.length] (.tp [.v (.string (ofL [])), .v (.int .i64 1)]) from ⟨fun vs w => Go.Proofs.enters_of (P := Try.prog) Try.func14 (by kernel_rfl) rfl vs w, pub_un ns hl hbn hc⟩)
      (And.intro (show (20 : Int) = ((ps.length : Nat) : Int) ∧ ps.length ≤ p0.length ∧ flat [.l (ptsC ps)] = (flat [.l (ptsC p0)]).take (ps.length * 13) from cutP p0 ps ep hp0)
      (And.intro (show decide (((p0.length : Nat) : Int) ≤ 4096) = true from decide_eq_true (by omega))
      (And.intro (show decide (((p0.length : Nat) : Int) > 20) = true from decide_eq_true (by omega))
      (And.intro (show decide (((ns.length : Nat) : Int) > 100) = false from decide_eq_false (by omega)) trivial))))))))))))))))))))))
theorem fr_ABb2 (ns : List Nat) (ps : List A1) (b : A2) (hbn : sm4 ns) (hsp : smP1 ps) (hb : sml2 b) (hn : ns.length ≤ 100) (p0 : List A1) (ep : ps = p0.take 20) (hp0 : 20 < p0.length) (hp4 : p0.length ≤ 4096) (hl : ns.length ≤ 64) (hc : ¬ cleanN ns) (h1 : ptE ps = 0) (h2 : p2E b ≠ 0) : Gives Try.prog 4 [.rz [.l (numC 4 ns)] ns.length, .ags [.z [.l (ptsC p0)] p0.length, .c (.n 6 b.1.1), .c (.n 6 b.1.2), .c (.n 6 b.2.1.1), .c (.n 6 b.2.1.2), .c (.c (.bool b.2.2))]] (.v (.bool true)) := by
  have hp : ps.length ≤ 20 := by rw [ep, List.length_take]; omega
  exact fn_gives_at (P := Try.prog) (X := rulesY _) (env := [eFAlive, eLCnt, ePut2T]) ⟨eFAlive_ok, eLCnt_ok, ePut2T_ok, trivial⟩ Try.func4 1 (oL [(12, wF), (16, wT), (21, wT), (25, { ch := 0, hi := fun _ => ps.length, ex := 6, cs := fun _ => [.l (ptsC ps)] }), (29, { ch := 0, hi := fun _ => 0, ex := 7, av := fun _ => .tp [.v (.string (ofL [])), .v (.int .i64 1)] }), (38, wF), (41, { ch := 0, hi := fun _ => 0, ex := 7, av := fun _ => .v (.bool false) }), (46, { ch := 0, hi := fun _ => 0, ex := 7, av := fun _ => .tp [.v (.string (ofL [])), .v (.int .i64 (p2E b))] }), (55, wF), (58, { ch := 0, hi := fun _ => 0, ex := 7, av := fun _ => .tp [.v (.string (ofL (ptsB ps))), .v (.int .i64 0)] }), (66, wO 0), (83, rO 6 0), (85, { ch := 0, hi := fun _ => 0, ex := 7, av := fun _ => .v (.string (ofL (numB ns))) }), (86, rO 6 0), (97, wT), (108, rO 6 0), (110, rO 6 0), (112, rO 6 0), (117, wT), (120, wT), (123, wT)]) (by kernel_rfl) ⟨_, rfl⟩
    (And.intro (show ((ofL []).toList == (ofL []).toList) = true from by simp)
      (And.intro (show ((p2E b) == (p2E b)) = true from by simp)
      (And.intro (show ((p2E b) != 0) = true from by simpa using h2)
      (And.intro (show (ofL ((mgK ++ (b4 .i64 (ps.length : Nat))) ++ (ptsB ps))).size + (ofL (p2S b)).size ≤ 9223372036854775807 from by
        have h1 := sz_num ns
        have h2 := sz_pts ps
        have h3 := sz_p2 b
        simp only [sz_ap, sz_b4, sz_mgW, sz_mgK]
        omega)
      (And.intro (show (ofL (mgK ++ (b4 .i64 (ps.length : Nat)))).size + (ofL (ptsB ps)).size ≤ 9223372036854775807 from by
        have h1 := sz_num ns
        have h2 := sz_pts ps
        have h3 := sz_p2 b
        simp only [sz_ap, sz_b4, sz_mgW, sz_mgK]
        omega)
      (And.intro (show (ofL mgK).size + (ofL (b4 .i64 (ps.length : Nat))).size ≤ 9223372036854775807 from by
        have h1 := sz_num ns
        have h2 := sz_pts ps
        have h3 := sz_p2 b
        simp only [sz_ap, sz_b4, sz_mgW, sz_mgK]
        omega)
      (And.intro (show ((ofL []).toList == (ofL []).toList) = true from by simp)
      (And.intro (show (ofL (mgW ++ (b4 .i64 (ns.length : Nat)))).size + (ofL (numB ns)).size ≤ 9223372036854775807 from by
        have h1 := sz_num ns
        have h2 := sz_pts ps
        have h3 := sz_p2 b
        simp only [sz_ap, sz_b4, sz_mgW, sz_mgK]
        omega)
      (And.intro (show GivesE Try.prog 11 [.rz [.l (numC 4 ns)] ns.length] (.v (.string (ofL (numB ns)))) from ⟨fun vs w => Go.Proofs.enters_of (P := Try.prog) Try.func11 (by kernel_rfl) rfl vs w, lnum ns (by omega) hbn⟩)
      (And.intro (show (ofL mgW).size + (ofL (b4 .i64 (ns.length : Nat))).size ≤ 9223372036854775807 from by
        have h1 := sz_num ns
        have h2 := sz_pts ps
        have h3 := sz_p2 b
        simp only [sz_ap, sz_b4, sz_mgW, sz_mgK]
        omega)
      (And.intro (show sml2 b from hb)
      (And.intro (show GivesE Try.prog 16 [.rz [.l (ptsC ps)] ps.length] (.tp [.v (.string (ofL (ptsB ps))), .v (.int .i64 0)]) from ⟨fun vs w => Go.Proofs.enters_of (P := Try.prog) Try.func16 (by kernel_rfl) rfl vs w, pts_yes ps (by omega) hsp h1⟩)
      (And.intro (show decide (((ps.length : Nat) : Int) > 4096) = false from decide_eq_false (by omega))
      (And.intro (show GivesE Try.prog 15 [.ags [.z [.l (ptsC ps)] ps.length, .c (.n 6 b.1.1), .c (.n 6 b.1.2), .c (.n 6 b.2.1.1), .c (.n 6 b.2.1.2), .c (.c (.bool b.2.2))]] (.tp [.v (.string (ofL [])), .v (.int .i64 (p2E b))]) from ⟨fun vs w => Go.Proofs.enters_of (P := Try.prog) Try.func15 (by kernel_rfl) rfl vs w, key_e2 ps b (by omega) hsp hb h1 h2⟩)
      (And.intro (show GivesE Try.prog 10 [.rz [.l (numC 4 ns)] ns.length] (.v (.bool false)) from ⟨fun vs w => Go.Proofs.enters_of (P := Try.prog) Try.func10 (by kernel_rfl) rfl vs w, lclean_no ns (by omega) hbn hc⟩)
      (And.intro (show decide (((ns.length : Nat) : Int) > 64) = false from decide_eq_false (by omega))
      (And.intro (show GivesE Try.prog 14 [.rz [.l (numC 4 ns)] ns.length] (.tp [.v (.string (ofL [])), .v (.int .i64 1)]) from ⟨fun vs w => Go.Proofs.enters_of (P := Try.prog) Try.func14 (by kernel_rfl) rfl vs w, pub_un ns hl hbn hc⟩)
      (And.intro (show (20 : Int) = ((ps.length : Nat) : Int) ∧ ps.length ≤ p0.length ∧ flat [.l (ptsC ps)] = (flat [.l (ptsC p0)]).take (ps.length * 13) from cutP p0 ps ep hp0)
      (And.intro (show decide (((p0.length : Nat) : Int) ≤ 4096) = true from decide_eq_true (by omega))
      (And.intro (show decide (((p0.length : Nat) : Int) > 20) = true from decide_eq_true (by omega))
      (And.intro (show decide (((ns.length : Nat) : Int) > 100) = false from decide_eq_false (by omega)) trivial)))))))))))))))))))))
theorem fr_ABc0 (ns : List Nat) (ps : List A1) (b : A2) (hbn : sm4 ns) (hsp : smP1 ps) (hb : sml2 b) (hn : ns.length ≤ 100) (p0 : List A1) (ep : ps = p0.take 20) (hp0 : 20 < p0.length) (hp4 : p0.length ≤ 4096) (hl : ns.length ≤ 64) (hc : cleanN ns) (h1 : ptE ps = 0) (h2 : p2E b = 0) : Gives Try.prog 4 [.rz [.l (numC 4 ns)] ns.length, .ags [.z [.l (ptsC p0)] p0.length, .c (.n 6 b.1.1), .c (.n 6 b.1.2), .c (.n 6 b.2.1.1), .c (.n 6 b.2.1.2), .c (.c (.bool b.2.2))]] (.v (.bool true)) := by
  have hp : ps.length ≤ 20 := by rw [ep, List.length_take]; omega
  exact fn_gives_at (P := Try.prog) (X := rulesY _) (env := [eFAlive, eLCnt, ePut2T]) ⟨eFAlive_ok, eLCnt_ok, ePut2T_ok, trivial⟩ Try.func4 1 (oL [(12, wF), (16, wT), (21, wT), (25, { ch := 0, hi := fun _ => ps.length, ex := 6, cs := fun _ => [.l (ptsC ps)] }), (29, { ch := 0, hi := fun _ => 0, ex := 7, av := fun _ => .tp [.v (.string (ofL (pubB ns ns.length))), .v (.int .i64 0)] }), (38, wF), (41, { ch := 0, hi := fun _ => 0, ex := 7, av := fun _ => .v (.bool true) }), (45, { ch := 0, hi := fun _ => 0, ex := 7, av := fun _ => .tp [.v (.string (ofL (keyB ps ps.length ++ p2S b))), .v (.int .i64 0)] }), (54, wF), (57, { ch := 0, hi := fun _ => 0, ex := 7, av := fun _ => .tp [.v (.string (ofL (ptsB ps))), .v (.int .i64 0)] }), (65, wO 0), (82, rO 6 0), (84, { ch := 0, hi := fun _ => 0, ex := 7, av := fun _ => .v (.string (ofL (numB ns))) }), (85, rO 6 0), (96, wT), (107, rO 6 0), (109, rO 6 0), (111, rO 6 0), (116, wF), (122, wT)]) (by kernel_rfl) ⟨_, rfl⟩
    (And.intro (show ((ofL (keyB ps ps.length ++ p2S b)).toList == (ofL (((mgK ++ (b4 .i64 (ps.length : Nat))) ++ (ptsB ps)) ++ p2S b)).toList) = true from by unfold keyB; rw [List.take_length]; simp)
      (And.intro (show (p2E b != 0) = false from by rw [h2]; rfl)
      (And.intro (show (ofL ((mgK ++ (b4 .i64 (ps.length : Nat))) ++ (ptsB ps))).size + (ofL (p2S b)).size ≤ 9223372036854775807 from by
        have h1 := sz_num ns
        have h2 := sz_pts ps
        have h3 := sz_p2 b
        simp only [sz_ap, sz_b4, sz_mgW, sz_mgK]
        omega)
      (And.intro (show (ofL (mgK ++ (b4 .i64 (ps.length : Nat)))).size + (ofL (ptsB ps)).size ≤ 9223372036854775807 from by
        have h1 := sz_num ns
        have h2 := sz_pts ps
        have h3 := sz_p2 b
        simp only [sz_ap, sz_b4, sz_mgW, sz_mgK]
        omega)
      (And.intro (show (ofL mgK).size + (ofL (b4 .i64 (ps.length : Nat))).size ≤ 9223372036854775807 from by
        have h1 := sz_num ns
        have h2 := sz_pts ps
        have h3 := sz_p2 b
        simp only [sz_ap, sz_b4, sz_mgW, sz_mgK]
        omega)
      (And.intro (show ((ofL (pubB ns ns.length)).toList == (ofL ((mgW ++ (b4 .i64 (ns.length : Nat))) ++ numB ns)).toList) = true from by unfold pubB; rw [List.take_length]; simp)
      (And.intro (show (ofL (mgW ++ (b4 .i64 (ns.length : Nat)))).size + (ofL (numB ns)).size ≤ 9223372036854775807 from by
        have h1 := sz_num ns
        have h2 := sz_pts ps
        have h3 := sz_p2 b
        simp only [sz_ap, sz_b4, sz_mgW, sz_mgK]
        omega)
      (And.intro (show GivesE Try.prog 11 [.rz [.l (numC 4 ns)] ns.length] (.v (.string (ofL (numB ns)))) from ⟨fun vs w => Go.Proofs.enters_of (P := Try.prog) Try.func11 (by kernel_rfl) rfl vs w, lnum ns (by omega) hbn⟩)
      (And.intro (show (ofL mgW).size + (ofL (b4 .i64 (ns.length : Nat))).size ≤ 9223372036854775807 from by
        have h1 := sz_num ns
        have h2 := sz_pts ps
        have h3 := sz_p2 b
        simp only [sz_ap, sz_b4, sz_mgW, sz_mgK]
        omega)
      (And.intro (show sml2 b from hb)
      (And.intro (show GivesE Try.prog 16 [.rz [.l (ptsC ps)] ps.length] (.tp [.v (.string (ofL (ptsB ps))), .v (.int .i64 0)]) from ⟨fun vs w => Go.Proofs.enters_of (P := Try.prog) Try.func16 (by kernel_rfl) rfl vs w, pts_yes ps (by omega) hsp h1⟩)
      (And.intro (show decide (((ps.length : Nat) : Int) > 4096) = false from decide_eq_false (by omega))
      (And.intro (show GivesE Try.prog 15 [.ags [.z [.l (ptsC ps)] ps.length, .c (.n 6 b.1.1), .c (.n 6 b.1.2), .c (.n 6 b.2.1.1), .c (.n 6 b.2.1.2), .c (.c (.bool b.2.2))]] (.tp [.v (.string (ofL (keyB ps ps.length ++ p2S b))), .v (.int .i64 0)]) from ⟨fun vs w => Go.Proofs.enters_of (P := Try.prog) Try.func15 (by kernel_rfl) rfl vs w, key_ok ps b (by omega) hsp hb h1 h2⟩)
      (And.intro (show GivesE Try.prog 10 [.rz [.l (numC 4 ns)] ns.length] (.v (.bool true)) from ⟨fun vs w => Go.Proofs.enters_of (P := Try.prog) Try.func10 (by kernel_rfl) rfl vs w, lclean_yes ns (by omega) hbn hc⟩)
      (And.intro (show decide (((ns.length : Nat) : Int) > 64) = false from decide_eq_false (by omega))
      (And.intro (show GivesE Try.prog 14 [.rz [.l (numC 4 ns)] ns.length] (.tp [.v (.string (ofL (pubB ns ns.length))), .v (.int .i64 0)]) from ⟨fun vs w => Go.Proofs.enters_of (P := Try.prog) Try.func14 (by kernel_rfl) rfl vs w, pub_ok ns hl hbn hc⟩)
      (And.intro (show (20 : Int) = ((ps.length : Nat) : Int) ∧ ps.length ≤ p0.length ∧ flat [.l (ptsC ps)] = (flat [.l (ptsC p0)]).take (ps.length * 13) from cutP p0 ps ep hp0)
      (And.intro (show decide (((p0.length : Nat) : Int) ≤ 4096) = true from decide_eq_true (by omega))
      (And.intro (show decide (((p0.length : Nat) : Int) > 20) = true from decide_eq_true (by omega))
      (And.intro (show decide (((ns.length : Nat) : Int) > 100) = false from decide_eq_false (by omega)) trivial))))))))))))))))))))
theorem fr_ABc1 (ns : List Nat) (ps : List A1) (b : A2) (hbn : sm4 ns) (hsp : smP1 ps) (hb : sml2 b) (hn : ns.length ≤ 100) (p0 : List A1) (ep : ps = p0.take 20) (hp0 : 20 < p0.length) (hp4 : p0.length ≤ 4096) (hl : ns.length ≤ 64) (hc : cleanN ns) (h1 : ptE ps ≠ 0) : Gives Try.prog 4 [.rz [.l (numC 4 ns)] ns.length, .ags [.z [.l (ptsC p0)] p0.length, .c (.n 6 b.1.1), .c (.n 6 b.1.2), .c (.n 6 b.2.1.1), .c (.n 6 b.2.1.2), .c (.c (.bool b.2.2))]] (.v (.bool true)) := by
  have hp : ps.length ≤ 20 := by rw [ep, List.length_take]; omega
  exact fn_gives_at (P := Try.prog) (X := rulesY _) (env := [eFAlive, eLCnt, ePut2T]) ⟨eFAlive_ok, eLCnt_ok, ePut2T_ok, trivial⟩ Try.func4 1 (oL [(12, wF), (16, wT), (21, wT), (25, { ch := 0, hi := fun _ => ps.length, ex := 6, cs := fun _ => [.l (ptsC ps)] }), (29, { ch := 0, hi := fun _ => 0, ex := 7, av := fun _ => .tp [.v (.string (ofL (pubB ns ns.length))), .v (.int .i64 0)] }), (38, wF), (41, { ch := 0, hi := fun _ => 0, ex := 7, av := fun _ => .v (.bool true) }), (45, { ch := 0, hi := fun _ => 0, ex := 7, av := fun _ => .tp [.v (.string (ofL [])), .v (.int .i64 (ptE ps))] }), (54, wF), (57, { ch := 0, hi := fun _ => 0, ex := 7, av := fun _ => .tp [.v (.string (ofL [])), .v (.int .i64 (ptE ps))] }), (65, wO 0), (72, wF), (80, rO 6 0), (82, { ch := 0, hi := fun _ => 0, ex := 7, av := fun _ => .v (.string (ofL (numB ns))) }), (83, rO 6 0), (94, wT), (105, rO 6 0), (107, rO 6 0), (109, rO 6 0), (114, wT), (117, wT), (120, wT)]) (by kernel_rfl) ⟨_, rfl⟩
    (And.intro (show ((ofL []).toList == (ofL []).toList) = true from by simp)
      (And.intro (show ((ptE ps) == (ptE ps)) = true from by simp)
      (And.intro (show ((ptE ps) != 0) = true from by simpa using h1)
      (And.intro (show (ofL ((mgK ++ (b4 .i64 (ps.length : Nat))) ++ [])).size + (ofL (p2S b)).size ≤ 9223372036854775807 from by
        have h3 := sz_p2 b
        have h4 : (ofL []).size = 0 := rfl
        simp only [sz_ap, sz_b4, sz_mgK, h4]
        omega)
      (And.intro (show (ofL (mgK ++ (b4 .i64 (ps.length : Nat)))).size + (ofL []).size ≤ 9223372036854775807 from by simp only [sz_ap, sz_b4, sz_mgK]; decide)
      (And.intro (show (ofL mgK).size + (ofL (b4 .i64 (ps.length : Nat))).size ≤ 9223372036854775807 from by
        have h1 := sz_num ns
        have h2 := sz_pts ps
        have h3 := sz_p2 b
        simp only [sz_ap, sz_b4, sz_mgW, sz_mgK]
        omega)
      (And.intro (show ((ofL (pubB ns ns.length)).toList == (ofL ((mgW ++ (b4 .i64 (ns.length : Nat))) ++ numB ns)).toList) = true from by unfold pubB; rw [List.take_length]; simp)
      (And.intro (show (ofL (mgW ++ (b4 .i64 (ns.length : Nat)))).size + (ofL (numB ns)).size ≤ 9223372036854775807 from by
        have h1 := sz_num ns
        have h2 := sz_pts ps
        have h3 := sz_p2 b
        simp only [sz_ap, sz_b4, sz_mgW, sz_mgK]
        omega)
      (And.intro (show GivesE Try.prog 11 [.rz [.l (numC 4 ns)] ns.length] (.v (.string (ofL (numB ns)))) from ⟨fun vs w => Go.Proofs.enters_of (P := Try.prog) Try.func11 (by kernel_rfl) rfl vs w, lnum ns (by omega) hbn⟩)
      (And.intro (show (ofL mgW).size + (ofL (b4 .i64 (ns.length : Nat))).size ≤ 9223372036854775807 from by
        have h1 := sz_num ns
        have h2 := sz_pts ps
        have h3 := sz_p2 b
        simp only [sz_ap, sz_b4, sz_mgW, sz_mgK]
        omega)
      (And.intro (show (ptE ps == 0) = false from by simpa using h1)
      (And.intro (show sml2 b from hb)
      (And.intro (show GivesE Try.prog 16 [.rz [.l (ptsC ps)] ps.length] (.tp [.v (.string (ofL [])), .v (.int .i64 (ptE ps))]) from ⟨fun vs w => Go.Proofs.enters_of (P := Try.prog) Try.func16 (by kernel_rfl) rfl vs w, pts_no ps (by omega) hsp h1⟩)
      (And.intro (show decide (((ps.length : Nat) : Int) > 4096) = false from decide_eq_false (by omega))
      (And.intro (show GivesE Try.prog 15 [.ags [.z [.l (ptsC ps)] ps.length, .c (.n 6 b.1.1), .c (.n 6 b.1.2), .c (.n 6 b.2.1.1), .c (.n 6 b.2.1.2), .c (.c (.bool b.2.2))]] (.tp [.v (.string (ofL [])), .v (.int .i64 (ptE ps))]) from ⟨fun vs w => Go.Proofs.enters_of (P := Try.prog) Try.func15 (by kernel_rfl) rfl vs w, key_e1 ps b (by omega) hsp hb h1⟩)
      (And.intro (show GivesE Try.prog 10 [.rz [.l (numC 4 ns)] ns.length] (.v (.bool true)) from ⟨fun vs w => Go.Proofs.enters_of (P := Try.prog) Try.func10 (by kernel_rfl) rfl vs w, lclean_yes ns (by omega) hbn hc⟩)
      (And.intro (show decide (((ns.length : Nat) : Int) > 64) = false from decide_eq_false (by omega))
      (And.intro (show GivesE Try.prog 14 [.rz [.l (numC 4 ns)] ns.length] (.tp [.v (.string (ofL (pubB ns ns.length))), .v (.int .i64 0)]) from ⟨fun vs w => Go.Proofs.enters_of (P := Try.prog) Try.func14 (by kernel_rfl) rfl vs w, pub_ok ns hl hbn hc⟩)
      (And.intro (show (20 : Int) = ((ps.length : Nat) : Int) ∧ ps.length ≤ p0.length ∧ flat [.l (ptsC ps)] = (flat [.l (ptsC p0)]).take (ps.length * 13) from cutP p0 ps ep hp0)
      (And.intro (show decide (((p0.length : Nat) : Int) ≤ 4096) = true from decide_eq_true (by omega))
      (And.intro (show decide (((p0.length : Nat) : Int) > 20) = true from decide_eq_true (by omega))
      (And.intro (show decide (((ns.length : Nat) : Int) > 100) = false from decide_eq_false (by omega)) trivial))))))))))))))))))))))
theorem fr_ABc2 (ns : List Nat) (ps : List A1) (b : A2) (hbn : sm4 ns) (hsp : smP1 ps) (hb : sml2 b) (hn : ns.length ≤ 100) (p0 : List A1) (ep : ps = p0.take 20) (hp0 : 20 < p0.length) (hp4 : p0.length ≤ 4096) (hl : ns.length ≤ 64) (hc : cleanN ns) (h1 : ptE ps = 0) (h2 : p2E b ≠ 0) : Gives Try.prog 4 [.rz [.l (numC 4 ns)] ns.length, .ags [.z [.l (ptsC p0)] p0.length, .c (.n 6 b.1.1), .c (.n 6 b.1.2), .c (.n 6 b.2.1.1), .c (.n 6 b.2.1.2), .c (.c (.bool b.2.2))]] (.v (.bool true)) := by
  have hp : ps.length ≤ 20 := by rw [ep, List.length_take]; omega
  exact fn_gives_at (P := Try.prog) (X := rulesY _) (env := [eFAlive, eLCnt, ePut2T]) ⟨eFAlive_ok, eLCnt_ok, ePut2T_ok, trivial⟩ Try.func4 1 (oL [(12, wF), (16, wT), (21, wT), (25, { ch := 0, hi := fun _ => ps.length, ex := 6, cs := fun _ => [.l (ptsC ps)] }), (29, { ch := 0, hi := fun _ => 0, ex := 7, av := fun _ => .tp [.v (.string (ofL (pubB ns ns.length))), .v (.int .i64 0)] }), (38, wF), (41, { ch := 0, hi := fun _ => 0, ex := 7, av := fun _ => .v (.bool true) }), (45, { ch := 0, hi := fun _ => 0, ex := 7, av := fun _ => .tp [.v (.string (ofL [])), .v (.int .i64 (p2E b))] }), (54, wF), (57, { ch := 0, hi := fun _ => 0, ex := 7, av := fun _ => .tp [.v (.string (ofL (ptsB ps))), .v (.int .i64 0)] }), (65, wO 0), (82, rO 6 0), (84, { ch := 0, hi := fun _ => 0, ex := 7, av := fun _ => .v (.string (ofL (numB ns))) }), (85, rO 6 0), (96, wT), (107, rO 6 0), (109, rO 6 0), (111, rO 6 0), (116, wT), (119, wT), (122, wT)]) (by kernel_rfl) ⟨_, rfl⟩
    (And.intro (show ((ofL []).toList == (ofL []).toList) = true from by simp)
      (And.intro (show ((p2E b) == (p2E b)) = true from by simp)
      (And.intro (show ((p2E b) != 0) = true from by simpa using h2)
      (And.intro (show (ofL ((mgK ++ (b4 .i64 (ps.length : Nat))) ++ (ptsB ps))).size + (ofL (p2S b)).size ≤ 9223372036854775807 from by
        have h1 := sz_num ns
        have h2 := sz_pts ps
        have h3 := sz_p2 b
        simp only [sz_ap, sz_b4, sz_mgW, sz_mgK]
        omega)
      (And.intro (show (ofL (mgK ++ (b4 .i64 (ps.length : Nat)))).size + (ofL (ptsB ps)).size ≤ 9223372036854775807 from by
        have h1 := sz_num ns
        have h2 := sz_pts ps
        have h3 := sz_p2 b
        simp only [sz_ap, sz_b4, sz_mgW, sz_mgK]
        omega)
      (And.intro (show (ofL mgK).size + (ofL (b4 .i64 (ps.length : Nat))).size ≤ 9223372036854775807 from by
        have h1 := sz_num ns
        have h2 := sz_pts ps
        have h3 := sz_p2 b
        simp only [sz_ap, sz_b4, sz_mgW, sz_mgK]
        omega)
      (And.intro (show ((ofL (pubB ns ns.length)).toList == (ofL ((mgW ++ (b4 .i64 (ns.length : Nat))) ++ numB ns)).toList) = true from by unfold pubB; rw [List.take_length]; simp)
      (And.intro (show (ofL (mgW ++ (b4 .i64 (ns.length : Nat)))).size + (ofL (numB ns)).size ≤ 9223372036854775807 from by
        have h1 := sz_num ns
        have h2 := sz_pts ps
        have h3 := sz_p2 b
        simp only [sz_ap, sz_b4, sz_mgW, sz_mgK]
        omega)
      (And.intro (show GivesE Try.prog 11 [.rz [.l (numC 4 ns)] ns.length] (.v (.string (ofL (numB ns)))) from ⟨fun vs w => Go.Proofs.enters_of (P := Try.prog) Try.func11 (by kernel_rfl) rfl vs w, lnum ns (by omega) hbn⟩)
      (And.intro (show (ofL mgW).size + (ofL (b4 .i64 (ns.length : Nat))).size ≤ 9223372036854775807 from by
        have h1 := sz_num ns
        have h2 := sz_pts ps
        have h3 := sz_p2 b
        simp only [sz_ap, sz_b4, sz_mgW, sz_mgK]
        omega)
      (And.intro (show sml2 b from hb)
      (And.intro (show GivesE Try.prog 16 [.rz [.l (ptsC ps)] ps.length] (.tp [.v (.string (ofL (ptsB ps))), .v (.int .i64 0)]) from ⟨fun vs w => Go.Proofs.enters_of (P := Try.prog) Try.func16 (by kernel_rfl) rfl vs w, pts_yes ps (by omega) hsp h1⟩)
      (And.intro (show decide (((ps.length : Nat) : Int) > 4096) = false from decide_eq_false (by omega))
      (And.intro (show GivesE Try.prog 15 [.ags [.z [.l (ptsC ps)] ps.length, .c (.n 6 b.1.1), .c (.n 6 b.1.2), .c (.n 6 b.2.1.1), .c (.n 6 b.2.1.2), .c (.c (.bool b.2.2))]] (.tp [.v (.string (ofL [])), .v (.int .i64 (p2E b))]) from ⟨fun vs w => Go.Proofs.enters_of (P := Try.prog) Try.func15 (by kernel_rfl) rfl vs w, key_e2 ps b (by omega) hsp hb h1 h2⟩)
      (And.intro (show GivesE Try.prog 10 [.rz [.l (numC 4 ns)] ns.length] (.v (.bool true)) from ⟨fun vs w => Go.Proofs.enters_of (P := Try.prog) Try.func10 (by kernel_rfl) rfl vs w, lclean_yes ns (by omega) hbn hc⟩)
      (And.intro (show decide (((ns.length : Nat) : Int) > 64) = false from decide_eq_false (by omega))
      (And.intro (show GivesE Try.prog 14 [.rz [.l (numC 4 ns)] ns.length] (.tp [.v (.string (ofL (pubB ns ns.length))), .v (.int .i64 0)]) from ⟨fun vs w => Go.Proofs.enters_of (P := Try.prog) Try.func14 (by kernel_rfl) rfl vs w, pub_ok ns hl hbn hc⟩)
      (And.intro (show (20 : Int) = ((ps.length : Nat) : Int) ∧ ps.length ≤ p0.length ∧ flat [.l (ptsC ps)] = (flat [.l (ptsC p0)]).take (ps.length * 13) from cutP p0 ps ep hp0)
      (And.intro (show decide (((p0.length : Nat) : Int) ≤ 4096) = true from decide_eq_true (by omega))
      (And.intro (show decide (((p0.length : Nat) : Int) > 20) = true from decide_eq_true (by omega))
      (And.intro (show decide (((ns.length : Nat) : Int) > 100) = false from decide_eq_false (by omega)) trivial)))))))))))))))))))))
theorem fr_ACaC (ns : List Nat) (ps : List A1) (b : A2) (hbn : sm4 ns) (hsp : smP1 ps) (hb : sml2 b) (hn : ns.length ≤ 100) (hp : 4096 < ps.length) (hl : 64 < ns.length) : Gives Try.prog 4 [.rz [.l (numC 4 ns)] ns.length, .ags [.z [.l (ptsC ps)] ps.length, .c (.n 6 b.1.1), .c (.n 6 b.1.2), .c (.n 6 b.2.1.1), .c (.n 6 b.2.1.2), .c (.c (.bool b.2.2))]] (.v (.bool true)) := by
  exact fn_gives_at (P := Try.prog) (X := rulesY _) (env := [eFAlive, eLCnt, ePut2T]) ⟨eFAlive_ok, eLCnt_ok, ePut2T_ok, trivial⟩ Try.func4 1 (oL [(12, wF), (16, wT), (21, wF), (24, { ch := 0, hi := fun _ => 0, ex := 7, av := fun _ => .tp [.v (.string (ofL [])), .v (.int .i64 1)] }), (33, wT), (41, { ch := 0, hi := fun _ => 0, ex := 7, av := fun _ => .tp [.v (.string (ofL [])), .v (.int .i64 1)] }), (50, wT), (58, rO 6 0), (60, { ch := 0, hi := fun _ => 0, ex := 7, av := fun _ => .v (.string (ofL (numB ns))) }), (61, rO 6 0), (72, wT), (82, wT)]) (by kernel_rfl) ⟨_, rfl⟩
    (And.intro (show ((ofL []).toList == (ofL []).toList) = true from by simp)
      (And.intro (show ((ofL []).toList == (ofL []).toList) = true from by simp)
      (And.intro (show (ofL (mgW ++ (b4 .i64 (ns.length : Nat)))).size + (ofL (numB ns)).size ≤ 9223372036854775807 from by
        have h1 := sz_num ns
        have h2 := sz_pts ps
        have h3 := sz_p2 b
        simp only [sz_ap, sz_b4, sz_mgW, sz_mgK]
        omega)
      (And.intro (show GivesE Try.prog 11 [.rz [.l (numC 4 ns)] ns.length] (.v (.string (ofL (numB ns)))) from ⟨fun vs w => Go.Proofs.enters_of (P := Try.prog) Try.func11 (by kernel_rfl) rfl vs w, lnum ns (by omega) hbn⟩)
      (And.intro (show (ofL mgW).size + (ofL (b4 .i64 (ns.length : Nat))).size ≤ 9223372036854775807 from by
        have h1 := sz_num ns
        have h2 := sz_pts ps
        have h3 := sz_p2 b
        simp only [sz_ap, sz_b4, sz_mgW, sz_mgK]
        omega)
      (And.intro (show decide (((ps.length : Nat) : Int) > 4096) = true from decide_eq_true (by omega))
      (And.intro (show GivesE Try.prog 15 [.ags [.z [.l (ptsC ps)] ps.length, .c (.n 6 b.1.1), .c (.n 6 b.1.2), .c (.n 6 b.2.1.1), .c (.n 6 b.2.1.2), .c (.c (.bool b.2.2))]] (.tp [.v (.string (ofL [])), .v (.int .i64 1)]) from ⟨fun vs w => Go.Proofs.enters_of (P := Try.prog) Try.func15 (by kernel_rfl) rfl vs w, key_long ps b hp⟩)
      (And.intro (show decide (((ns.length : Nat) : Int) > 64) = true from decide_eq_true (by omega))
      (And.intro (show GivesE Try.prog 14 [.rz [.l (numC 4 ns)] ns.length] (.tp [.v (.string (ofL [])), .v (.int .i64 1)]) from ⟨fun vs w => Go.Proofs.enters_of (P := Try.prog) Try.func14 (by kernel_rfl) rfl vs w, pub_long ns hl⟩)
      (And.intro (show decide (((ps.length : Nat) : Int) ≤ 4096) = false from decide_eq_false (by omega))
      (And.intro (show decide (((ps.length : Nat) : Int) > 20) = true from decide_eq_true (by omega))
      (And.intro (show decide (((ns.length : Nat) : Int) > 100) = false from decide_eq_false (by omega)) trivial))))))))))))
theorem fr_ACbC (ns : List Nat) (ps : List A1) (b : A2) (hbn : sm4 ns) (hsp : smP1 ps) (hb : sml2 b) (hn : ns.length ≤ 100) (hp : 4096 < ps.length) (hl : ns.length ≤ 64) (hc : ¬ cleanN ns) : Gives Try.prog 4 [.rz [.l (numC 4 ns)] ns.length, .ags [.z [.l (ptsC ps)] ps.length, .c (.n 6 b.1.1), .c (.n 6 b.1.2), .c (.n 6 b.2.1.1), .c (.n 6 b.2.1.2), .c (.c (.bool b.2.2))]] (.v (.bool true)) := by
  exact fn_gives_at (P := Try.prog) (X := rulesY _) (env := [eFAlive, eLCnt, ePut2T]) ⟨eFAlive_ok, eLCnt_ok, ePut2T_ok, trivial⟩ Try.func4 1 (oL [(12, wF), (16, wT), (21, wF), (24, { ch := 0, hi := fun _ => 0, ex := 7, av := fun _ => .tp [.v (.string (ofL [])), .v (.int .i64 1)] }), (33, wF), (36, { ch := 0, hi := fun _ => 0, ex := 7, av := fun _ => .v (.bool false) }), (41, { ch := 0, hi := fun _ => 0, ex := 7, av := fun _ => .tp [.v (.string (ofL [])), .v (.int .i64 1)] }), (50, wT), (58, rO 6 0), (60, { ch := 0, hi := fun _ => 0, ex := 7, av := fun _ => .v (.string (ofL (numB ns))) }), (61, rO 6 0), (72, wT), (82, wT)]) (by kernel_rfl) ⟨_, rfl⟩
    (And.intro (show ((ofL []).toList == (ofL []).toList) = true from by simp)
      (And.intro (show ((ofL []).toList == (ofL []).toList) = true from by simp)
      (And.intro (show (ofL (mgW ++ (b4 .i64 (ns.length : Nat)))).size + (ofL (numB ns)).size ≤ 9223372036854775807 from by
        have h1 := sz_num ns
        have h2 := sz_pts ps
        have h3 := sz_p2 b
        simp only [sz_ap, sz_b4, sz_mgW, sz_mgK]
        omega)
      (And.intro (show GivesE Try.prog 11 [.rz [.l (numC 4 ns)] ns.length] (.v (.string (ofL (numB ns)))) from ⟨fun vs w => Go.Proofs.enters_of (P := Try.prog) Try.func11 (by kernel_rfl) rfl vs w, lnum ns (by omega) hbn⟩)
      (And.intro (show (ofL mgW).size + (ofL (b4 .i64 (ns.length : Nat))).size ≤ 9223372036854775807 from by
        have h1 := sz_num ns
        have h2 := sz_pts ps
        have h3 := sz_p2 b
        simp only [sz_ap, sz_b4, sz_mgW, sz_mgK]
        omega)
      (And.intro (show decide (((ps.length : Nat) : Int) > 4096) = true from decide_eq_true (by omega))
      (And.intro (show GivesE Try.prog 15 [.ags [.z [.l (ptsC ps)] ps.length, .c (.n 6 b.1.1), .c (.n 6 b.1.2), .c (.n 6 b.2.1.1), .c (.n 6 b.2.1.2), .c (.c (.bool b.2.2))]] (.tp [.v (.string (ofL [])), .v (.int .i64 1)]) from ⟨fun vs w => Go.Proofs.enters_of (P := Try.prog) Try.func15 (by kernel_rfl) rfl vs w, key_long ps b hp⟩)
      (And.intro (show GivesE Try.prog 10 [.rz [.l (numC 4 ns)] ns.length] (.v (.bool false)) from ⟨fun vs w => Go.Proofs.enters_of (P := Try.prog) Try.func10 (by kernel_rfl) rfl vs w, lclean_no ns (by omega) hbn hc⟩)
      (And.intro (show decide (((ns.length : Nat) : Int) > 64) = false from decide_eq_false (by omega))
      (And.intro (show GivesE Try.prog 14 [.rz [.l (numC 4 ns)] ns.length] (.tp [.v (.string (ofL [])), .v (.int .i64 1)]) from ⟨fun vs w => Go.Proofs.enters_of (P := Try.prog) Try.func14 (by kernel_rfl) rfl vs w, pub_un ns hl hbn hc⟩)
      (And.intro (show decide (((ps.length : Nat) : Int) ≤ 4096) = false from decide_eq_false (by omega))
      (And.intro (show decide (((ps.length : Nat) : Int) > 20) = true from decide_eq_true (by omega))
      (And.intro (show decide (((ns.length : Nat) : Int) > 100) = false from decide_eq_false (by omega)) trivial)))))))))))))
theorem fr_ACcC (ns : List Nat) (ps : List A1) (b : A2) (hbn : sm4 ns) (hsp : smP1 ps) (hb : sml2 b) (hn : ns.length ≤ 100) (hp : 4096 < ps.length) (hl : ns.length ≤ 64) (hc : cleanN ns) : Gives Try.prog 4 [.rz [.l (numC 4 ns)] ns.length, .ags [.z [.l (ptsC ps)] ps.length, .c (.n 6 b.1.1), .c (.n 6 b.1.2), .c (.n 6 b.2.1.1), .c (.n 6 b.2.1.2), .c (.c (.bool b.2.2))]] (.v (.bool true)) := by
  exact fn_gives_at (P := Try.prog) (X := rulesY _) (env := [eFAlive, eLCnt, ePut2T]) ⟨eFAlive_ok, eLCnt_ok, ePut2T_ok, trivial⟩ Try.func4 1 (oL [(12, wF), (16, wT), (21, wF), (24, { ch := 0, hi := fun _ => 0, ex := 7, av := fun _ => .tp [.v (.string (ofL (pubB ns ns.length))), .v (.int .i64 0)] }), (33, wF), (36, { ch := 0, hi := fun _ => 0, ex := 7, av := fun _ => .v (.bool true) }), (40, { ch := 0, hi := fun _ => 0, ex := 7, av := fun _ => .tp [.v (.string (ofL [])), .v (.int .i64 1)] }), (49, wT), (57, rO 6 0), (59, { ch := 0, hi := fun _ => 0, ex := 7, av := fun _ => .v (.string (ofL (numB ns))) }), (60, rO 6 0), (71, wT), (81, wT)]) (by kernel_rfl) ⟨_, rfl⟩
    (And.intro (show ((ofL []).toList == (ofL []).toList) = true from by simp)
      (And.intro (show ((ofL (pubB ns ns.length)).toList == (ofL ((mgW ++ (b4 .i64 (ns.length : Nat))) ++ numB ns)).toList) = true from by unfold pubB; rw [List.take_length]; simp)
      (And.intro (show (ofL (mgW ++ (b4 .i64 (ns.length : Nat)))).size + (ofL (numB ns)).size ≤ 9223372036854775807 from by
        have h1 := sz_num ns
        have h2 := sz_pts ps
        have h3 := sz_p2 b
        simp only [sz_ap, sz_b4, sz_mgW, sz_mgK]
        omega)
      (And.intro (show GivesE Try.prog 11 [.rz [.l (numC 4 ns)] ns.length] (.v (.string (ofL (numB ns)))) from ⟨fun vs w => Go.Proofs.enters_of (P := Try.prog) Try.func11 (by kernel_rfl) rfl vs w, lnum ns (by omega) hbn⟩)
      (And.intro (show (ofL mgW).size + (ofL (b4 .i64 (ns.length : Nat))).size ≤ 9223372036854775807 from by
        have h1 := sz_num ns
        have h2 := sz_pts ps
        have h3 := sz_p2 b
        simp only [sz_ap, sz_b4, sz_mgW, sz_mgK]
        omega)
      (And.intro (show decide (((ps.length : Nat) : Int) > 4096) = true from decide_eq_true (by omega))
      (And.intro (show GivesE Try.prog 15 [.ags [.z [.l (ptsC ps)] ps.length, .c (.n 6 b.1.1), .c (.n 6 b.1.2), .c (.n 6 b.2.1.1), .c (.n 6 b.2.1.2), .c (.c (.bool b.2.2))]] (.tp [.v (.string (ofL [])), .v (.int .i64 1)]) from ⟨fun vs w => Go.Proofs.enters_of (P := Try.prog) Try.func15 (by kernel_rfl) rfl vs w, key_long ps b hp⟩)
      (And.intro (show GivesE Try.prog 10 [.rz [.l (numC 4 ns)] ns.length] (.v (.bool true)) from ⟨fun vs w => Go.Proofs.enters_of (P := Try.prog) Try.func10 (by kernel_rfl) rfl vs w, lclean_yes ns (by omega) hbn hc⟩)
      (And.intro (show decide (((ns.length : Nat) : Int) > 64) = false from decide_eq_false (by omega))
      (And.intro (show GivesE Try.prog 14 [.rz [.l (numC 4 ns)] ns.length] (.tp [.v (.string (ofL (pubB ns ns.length))), .v (.int .i64 0)]) from ⟨fun vs w => Go.Proofs.enters_of (P := Try.prog) Try.func14 (by kernel_rfl) rfl vs w, pub_ok ns hl hbn hc⟩)
      (And.intro (show decide (((ps.length : Nat) : Int) ≤ 4096) = false from decide_eq_false (by omega))
      (And.intro (show decide (((ps.length : Nat) : Int) > 20) = true from decide_eq_true (by omega))
      (And.intro (show decide (((ns.length : Nat) : Int) > 100) = false from decide_eq_false (by omega)) trivial)))))))))))))
theorem fr_BAa0 (ns : List Nat) (ps : List A1) (b : A2) (hbn : sm4 ns) (hsp : smP1 ps) (hb : sml2 b) (n0 : List Nat) (en : ns = n0.take 100) (hn0 : 100 < n0.length) (hp : ps.length ≤ 20) (hl : 64 < ns.length) (h1 : ptE ps = 0) (h2 : p2E b = 0) : Gives Try.prog 4 [.rz [.l (numC 4 n0)] n0.length, .ags [.z [.l (ptsC ps)] ps.length, .c (.n 6 b.1.1), .c (.n 6 b.1.2), .c (.n 6 b.2.1.1), .c (.n 6 b.2.1.2), .c (.c (.bool b.2.2))]] (.v (.bool true)) := by
  have hn : ns.length ≤ 100 := by rw [en, List.length_take]; omega
  exact fn_gives_at (P := Try.prog) (X := rulesY _) (env := [eFAlive, eLCnt, ePut2T]) ⟨eFAlive_ok, eLCnt_ok, ePut2T_ok, trivial⟩ Try.func4 1 (oL [(12, wT), (14, { ch := 0, hi := fun _ => ns.length, ex := 6, cs := fun _ => [.l (numC 4 ns)] }), (19, wF), (27, { ch := 0, hi := fun _ => 0, ex := 7, av := fun _ => .tp [.v (.string (ofL [])), .v (.int .i64 1)] }), (36, wT), (44, { ch := 0, hi := fun _ => 0, ex := 7, av := fun _ => .tp [.v (.string (ofL (keyB ps ps.length ++ p2S b))), .v (.int .i64 0)] }), (53, wF), (56, { ch := 0, hi := fun _ => 0, ex := 7, av := fun _ => .tp [.v (.string (ofL (ptsB ps))), .v (.int .i64 0)] }), (64, wO 0), (81, rO 6 0), (83, { ch := 0, hi := fun _ => 0, ex := 7, av := fun _ => .v (.string (ofL (numB ns))) }), (84, rO 6 0), (95, wT), (106, rO 6 0), (108, rO 6 0), (110, rO 6 0), (115, wF), (121, wT)]) (by kernel_rfl) ⟨_, rfl⟩
    (And.intro (show ((ofL (keyB ps ps.length ++ p2S b)).toList == (ofL (((mgK ++ (b4 .i64 (ps.length : Nat))) ++ (ptsB ps)) ++ p2S b)).toList) = true from by unfold keyB; rw [List.take_length]; simp)
      (And.intro (show (p2E b != 0) = false from by rw [h2]; rfl)
      (And.intro (show (ofL ((mgK ++ (b4 .i64 (ps.length : Nat))) ++ (ptsB ps))).size + (ofL (p2S b)).size ≤ 9223372036854775807 from by
        have h1 := sz_num ns
        have h2 := sz_pts ps
        have h3 := sz_p2 b
        simp only [sz_ap, sz_b4, sz_mgW, sz_mgK]
        omega)
      (And.intro (show (ofL (mgK ++ (b4 .i64 (ps.length : Nat)))).size + (ofL (ptsB ps)).size ≤ 9223372036854775807 from by
        have h1 := sz_num ns
        have h2 := sz_pts ps
        have h3 := sz_p2 b
        simp only [sz_ap, sz_b4, sz_mgW, sz_mgK]
        omega)
      (And.intro (show (ofL mgK).size + (ofL (b4 .i64 (ps.length : Nat))).size ≤ 9223372036854775807 from by
        have h1 := sz_num ns
        have h2 := sz_pts ps
        have h3 := sz_p2 b
        simp only [sz_ap, sz_b4, sz_mgW, sz_mgK]
        omega)
      (And.intro (show ((ofL []).toList == (ofL []).toList) = true from by simp)
      (And.intro (show (ofL (mgW ++ (b4 .i64 (ns.length : Nat)))).size + (ofL (numB ns)).size ≤ 9223372036854775807 from by
        have h1 := sz_num ns
        have h2 := sz_pts ps
        have h3 := sz_p2 b
        simp only [sz_ap, sz_b4, sz_mgW, sz_mgK]
        omega)
      (And.intro (show GivesE Try.prog 11 [.rz [.l (numC 4 ns)] ns.length] (.v (.string (ofL (numB ns)))) from ⟨fun vs w => Go.Proofs.enters_of (P := Try.prog) Try.func11 (by kernel_rfl) rfl vs w, lnum ns (by omega) hbn⟩)
      (And.intro (show (ofL mgW).size + (ofL (b4 .i64 (ns.length : Nat))).size ≤ 9223372036854775807 from by
        have h1 := sz_num ns
        have h2 := sz_pts ps
        have h3 := sz_p2 b
        simp only [sz_ap, sz_b4, sz_mgW, sz_mgK]
        omega)
      (And.intro (show sml2 b from hb)
      (And.intro (show GivesE Try.prog 16 [.rz [.l (ptsC ps)] ps.length] (.tp [.v (.string (ofL (ptsB ps))), .v (.int .i64 0)]) from ⟨fun vs w => Go.Proofs.enters_of (P := Try.prog) Try.func16 (by kernel_rfl) rfl vs w, pts_yes ps (by omega) hsp h1⟩)
      (And.intro (show decide (((ps.length : Nat) : Int) > 4096) = false from decide_eq_false (by omega))
      (And.intro (show GivesE Try.prog 15 [.ags [.z [.l (ptsC ps)] ps.length, .c (.n 6 b.1.1), .c (.n 6 b.1.2), .c (.n 6 b.2.1.1), .c (.n 6 b.2.1.2), .c (.c (.bool b.2.2))]] (.tp [.v (.string (ofL (keyB ps ps.length ++ p2S b))), .v (.int .i64 0)]) from ⟨fun vs w => Go.Proofs.enters_of (P := Try.prog) Try.func15 (by kernel_rfl) rfl vs w, key_ok ps b (by omega) hsp hb h1 h2⟩)
      (And.intro (show decide (((ns.length : Nat) : Int) > 64) = true from decide_eq_true (by omega))
      (And.intro (show GivesE Try.prog 14 [.rz [.l (numC 4 ns)] ns.length] (.tp [.v (.string (ofL [])), .v (.int .i64 1)]) from ⟨fun vs w => Go.Proofs.enters_of (P := Try.prog) Try.func14 (by kernel_rfl) rfl vs w, pub_long ns hl⟩)
      (And.intro (show decide (((ps.length : Nat) : Int) > 20) = false from decide_eq_false (by omega))
      (And.intro (show (100 : Int) = ((ns.length : Nat) : Int) ∧ ns.length ≤ n0.length ∧ flat [.l (numC 4 ns)] = (flat [.l (numC 4 n0)]).take (ns.length * 4) from cutN n0 ns en hn0)
      (And.intro (show decide (((n0.length : Nat) : Int) > 100) = true from decide_eq_true (by omega)) trivial))))))))))))))))))
theorem fr_BAa1 (ns : List Nat) (ps : List A1) (b : A2) (hbn : sm4 ns) (hsp : smP1 ps) (hb : sml2 b) (n0 : List Nat) (en : ns = n0.take 100) (hn0 : 100 < n0.length) (hp : ps.length ≤ 20) (hl : 64 < ns.length) (h1 : ptE ps ≠ 0) : Gives Try.prog 4 [.rz [.l (numC 4 n0)] n0.length, .ags [.z [.l (ptsC ps)] ps.length, .c (.n 6 b.1.1), .c (.n 6 b.1.2), .c (.n 6 b.2.1.1), .c (.n 6 b.2.1.2), .c (.c (.bool b.2.2))]] (.v (.bool true)) := by
  have hn : ns.length ≤ 100 := by rw [en, List.length_take]; omega
  exact fn_gives_at (P := Try.prog) (X := rulesY _) (env := [eFAlive, eLCnt, ePut2T]) ⟨eFAlive_ok, eLCnt_ok, ePut2T_ok, trivial⟩ Try.func4 1 (oL [(12, wT), (14, { ch := 0, hi := fun _ => ns.length, ex := 6, cs := fun _ => [.l (numC 4 ns)] }), (19, wF), (27, { ch := 0, hi := fun _ => 0, ex := 7, av := fun _ => .tp [.v (.string (ofL [])), .v (.int .i64 1)] }), (36, wT), (44, { ch := 0, hi := fun _ => 0, ex := 7, av := fun _ => .tp [.v (.string (ofL [])), .v (.int .i64 (ptE ps))] }), (53, wF), (56, { ch := 0, hi := fun _ => 0, ex := 7, av := fun _ => .tp [.v (.string (ofL [])), .v (.int .i64 (ptE ps))] }), (64, wO 0), (71, wF), (79, rO 6 0), (81, { ch := 0, hi := fun _ => 0, ex := 7, av := fun _ => .v (.string (ofL (numB ns))) }), (82, rO 6 0), (93, wT), (104, rO 6 0), (106, rO 6 0), (108, rO 6 0), (113, wT), (116, wT), (119, wT)]) (by kernel_rfl) ⟨_, rfl⟩
    (And.intro (show ((ofL []).toList == (ofL []).toList) = true from by simp)
      (And.intro (show ((ptE ps) == (ptE ps)) = true from by simp)
      (And.intro (show ((ptE ps) != 0) = true from by simpa using h1)
      (And.intro (show (ofL ((mgK ++ (b4 .i64 (ps.length : Nat))) ++ [])).size + (ofL (p2S b)).size ≤ 9223372036854775807 from by
        have h3 := sz_p2 b
        have h4 : (ofL []).size = 0 := rfl
        simp only [sz_ap, sz_b4, sz_mgK, h4]
        omega)
      (And.intro (show (ofL (mgK ++ (b4 .i64 (ps.length : Nat)))).size + (ofL []).size ≤ 9223372036854775807 from by simp only [sz_ap, sz_b4, sz_mgK]; decide)
      (And.intro (show (ofL mgK).size + (ofL (b4 .i64 (ps.length : Nat))).size ≤ 9223372036854775807 from by
        have h1 := sz_num ns
        have h2 := sz_pts ps
        have h3 := sz_p2 b
        simp only [sz_ap, sz_b4, sz_mgW, sz_mgK]
        omega)
      (And.intro (show ((ofL []).toList == (ofL []).toList) = true from by simp)
      (And.intro (show (ofL (mgW ++ (b4 .i64 (ns.length : Nat)))).size + (ofL (numB ns)).size ≤ 9223372036854775807 from by
        have h1 := sz_num ns
        have h2 := sz_pts ps
        have h3 := sz_p2 b
        simp only [sz_ap, sz_b4, sz_mgW, sz_mgK]
        omega)
      (And.intro (show GivesE Try.prog 11 [.rz [.l (numC 4 ns)] ns.length] (.v (.string (ofL (numB ns)))) from ⟨fun vs w => Go.Proofs.enters_of (P := Try.prog) Try.func11 (by kernel_rfl) rfl vs w, lnum ns (by omega) hbn⟩)
      (And.intro (show (ofL mgW).size + (ofL (b4 .i64 (ns.length : Nat))).size ≤ 9223372036854775807 from by
        have h1 := sz_num ns
        have h2 := sz_pts ps
        have h3 := sz_p2 b
        simp only [sz_ap, sz_b4, sz_mgW, sz_mgK]
        omega)
      (And.intro (show (ptE ps == 0) = false from by simpa using h1)
      (And.intro (show sml2 b from hb)
      (And.intro (show GivesE Try.prog 16 [.rz [.l (ptsC ps)] ps.length] (.tp [.v (.string (ofL [])), .v (.int .i64 (ptE ps))]) from ⟨fun vs w => Go.Proofs.enters_of (P := Try.prog) Try.func16 (by kernel_rfl) rfl vs w, pts_no ps (by omega) hsp h1⟩)
      (And.intro (show decide (((ps.length : Nat) : Int) > 4096) = false from decide_eq_false (by omega))
      (And.intro (show GivesE Try.prog 15 [.ags [.z [.l (ptsC ps)] ps.length, .c (.n 6 b.1.1), .c (.n 6 b.1.2), .c (.n 6 b.2.1.1), .c (.n 6 b.2.1.2), .c (.c (.bool b.2.2))]] (.tp [.v (.string (ofL [])), .v (.int .i64 (ptE ps))]) from ⟨fun vs w => Go.Proofs.enters_of (P := Try.prog) Try.func15 (by kernel_rfl) rfl vs w, key_e1 ps b (by omega) hsp hb h1⟩)
      (And.intro (show decide (((ns.length : Nat) : Int) > 64) = true from decide_eq_true (by omega))
      (And.intro (show GivesE Try.prog 14 [.rz [.l (numC 4 ns)] ns.length] (.tp [.v (.string (ofL [])), .v (.int .i64 1)]) from ⟨fun vs w => Go.Proofs.enters_of (P := Try.prog) Try.func14 (by kernel_rfl) rfl vs w, pub_long ns hl⟩)
      (And.intro (show decide (((ps.length : Nat) : Int) > 20) = false from decide_eq_false (by omega))
      (And.intro (show (100 : Int) = ((ns.length : Nat) : Int) ∧ ns.length ≤ n0.length ∧ flat [.l (numC 4 ns)] = (flat [.l (numC 4 n0)]).take (ns.length * 4) from cutN n0 ns en hn0)
      (And.intro (show decide (((n0.length : Nat) : Int) > 100) = true from decide_eq_true (by omega)) trivial))))))))))))))))))))
theorem fr_BAa2 (ns : List Nat) (ps : List A1) (b : A2) (hbn : sm4 ns) (hsp : smP1 ps) (hb : sml2 b) (n0 : List Nat) (en : ns = n0.take 100) (hn0 : 100 < n0.length) (hp : ps.length ≤ 20) (hl : 64 < ns.length) (h1 : ptE ps = 0) (h2 : p2E b ≠ 0) : Gives Try.prog 4 [.rz [.l (numC 4 n0)] n0.length, .ags [.z [.l (ptsC ps)] ps.length, .c (.n 6 b.1.1), .c (.n 6 b.1.2), .c (.n 6 b.2.1.1), .c (.n 6 b.2.1.2), .c (.c (.bool b.2.2))]] (.v (.bool true)) := by
  have hn : ns.length ≤ 100 := by rw [en, List.length_take]; omega
  exact fn_gives_at (P := Try.prog) (X := rulesY _) (env := [eFAlive, eLCnt, ePut2T]) ⟨eFAlive_ok, eLCnt_ok, ePut2T_ok, trivial⟩ Try.func4 1 (oL [(12, wT), (14, { ch := 0, hi := fun _ => ns.length, ex := 6, cs := fun _ => [.l (numC 4 ns)] }), (19, wF), (27, { ch := 0, hi := fun _ => 0, ex := 7, av := fun _ => .tp [.v (.string (ofL [])), .v (.int .i64 1)] }), (36, wT), (44, { ch := 0, hi := fun _ => 0, ex := 7, av := fun _ => .tp [.v (.string (ofL [])), .v (.int .i64 (p2E b))] }), (53, wF), (56, { ch := 0, hi := fun _ => 0, ex := 7, av := fun _ => .tp [.v (.string (ofL (ptsB ps))), .v (.int .i64 0)] }), (64, wO 0), (81, rO 6 0), (83, { ch := 0, hi := fun _ => 0, ex := 7, av := fun _ => .v (.string (ofL (numB ns))) }), (84, rO 6 0), (95, wT), (106, rO 6 0), (108, rO 6 0), (110, rO 6 0), (115, wT), (118, wT), (121, wT)]) (by kernel_rfl) ⟨_, rfl⟩
    (And.intro (show ((ofL []).toList == (ofL []).toList) = true from by simp)
      (And.intro (show ((p2E b) == (p2E b)) = true from by simp)
      (And.intro (show ((p2E b) != 0) = true from by simpa using h2)
      (And.intro (show (ofL ((mgK ++ (b4 .i64 (ps.length : Nat))) ++ (ptsB ps))).size + (ofL (p2S b)).size ≤ 9223372036854775807 from by
        have h1 := sz_num ns
        have h2 := sz_pts ps
        have h3 := sz_p2 b
        simp only [sz_ap, sz_b4, sz_mgW, sz_mgK]
        omega)
      (And.intro (show (ofL (mgK ++ (b4 .i64 (ps.length : Nat)))).size + (ofL (ptsB ps)).size ≤ 9223372036854775807 from by
        have h1 := sz_num ns
        have h2 := sz_pts ps
        have h3 := sz_p2 b
        simp only [sz_ap, sz_b4, sz_mgW, sz_mgK]
        omega)
      (And.intro (show (ofL mgK).size + (ofL (b4 .i64 (ps.length : Nat))).size ≤ 9223372036854775807 from by
        have h1 := sz_num ns
        have h2 := sz_pts ps
        have h3 := sz_p2 b
        simp only [sz_ap, sz_b4, sz_mgW, sz_mgK]
        omega)
      (And.intro (show ((ofL []).toList == (ofL []).toList) = true from by simp)
      (And.intro (show (ofL (mgW ++ (b4 .i64 (ns.length : Nat)))).size + (ofL (numB ns)).size ≤ 9223372036854775807 from by
        have h1 := sz_num ns
        have h2 := sz_pts ps
        have h3 := sz_p2 b
        simp only [sz_ap, sz_b4, sz_mgW, sz_mgK]
        omega)
      (And.intro (show GivesE Try.prog 11 [.rz [.l (numC 4 ns)] ns.length] (.v (.string (ofL (numB ns)))) from ⟨fun vs w => Go.Proofs.enters_of (P := Try.prog) Try.func11 (by kernel_rfl) rfl vs w, lnum ns (by omega) hbn⟩)
      (And.intro (show (ofL mgW).size + (ofL (b4 .i64 (ns.length : Nat))).size ≤ 9223372036854775807 from by
        have h1 := sz_num ns
        have h2 := sz_pts ps
        have h3 := sz_p2 b
        simp only [sz_ap, sz_b4, sz_mgW, sz_mgK]
        omega)
      (And.intro (show sml2 b from hb)
      (And.intro (show GivesE Try.prog 16 [.rz [.l (ptsC ps)] ps.length] (.tp [.v (.string (ofL (ptsB ps))), .v (.int .i64 0)]) from ⟨fun vs w => Go.Proofs.enters_of (P := Try.prog) Try.func16 (by kernel_rfl) rfl vs w, pts_yes ps (by omega) hsp h1⟩)
      (And.intro (show decide (((ps.length : Nat) : Int) > 4096) = false from decide_eq_false (by omega))
      (And.intro (show GivesE Try.prog 15 [.ags [.z [.l (ptsC ps)] ps.length, .c (.n 6 b.1.1), .c (.n 6 b.1.2), .c (.n 6 b.2.1.1), .c (.n 6 b.2.1.2), .c (.c (.bool b.2.2))]] (.tp [.v (.string (ofL [])), .v (.int .i64 (p2E b))]) from ⟨fun vs w => Go.Proofs.enters_of (P := Try.prog) Try.func15 (by kernel_rfl) rfl vs w, key_e2 ps b (by omega) hsp hb h1 h2⟩)
      (And.intro (show decide (((ns.length : Nat) : Int) > 64) = true from decide_eq_true (by omega))
      (And.intro (show GivesE Try.prog 14 [.rz [.l (numC 4 ns)] ns.length] (.tp [.v (.string (ofL [])), .v (.int .i64 1)]) from ⟨fun vs w => Go.Proofs.enters_of (P := Try.prog) Try.func14 (by kernel_rfl) rfl vs w, pub_long ns hl⟩)
      (And.intro (show decide (((ps.length : Nat) : Int) > 20) = false from decide_eq_false (by omega))
      (And.intro (show (100 : Int) = ((ns.length : Nat) : Int) ∧ ns.length ≤ n0.length ∧ flat [.l (numC 4 ns)] = (flat [.l (numC 4 n0)]).take (ns.length * 4) from cutN n0 ns en hn0)
      (And.intro (show decide (((n0.length : Nat) : Int) > 100) = true from decide_eq_true (by omega)) trivial)))))))))))))))))))
theorem fr_BAb0 (ns : List Nat) (ps : List A1) (b : A2) (hbn : sm4 ns) (hsp : smP1 ps) (hb : sml2 b) (n0 : List Nat) (en : ns = n0.take 100) (hn0 : 100 < n0.length) (hp : ps.length ≤ 20) (hl : ns.length ≤ 64) (hc : ¬ cleanN ns) (h1 : ptE ps = 0) (h2 : p2E b = 0) : Gives Try.prog 4 [.rz [.l (numC 4 n0)] n0.length, .ags [.z [.l (ptsC ps)] ps.length, .c (.n 6 b.1.1), .c (.n 6 b.1.2), .c (.n 6 b.2.1.1), .c (.n 6 b.2.1.2), .c (.c (.bool b.2.2))]] (.v (.bool true)) := by
  have hn : ns.length ≤ 100 := by rw [en, List.length_take]; omega
  exact fn_gives_at (P := Try.prog) (X := rulesY _) (env := [eFAlive, eLCnt, ePut2T]) ⟨eFAlive_ok, eLCnt_ok, ePut2T_ok, trivial⟩ Try.func4 1 (oL [(12, wT), (14, { ch := 0, hi := fun _ => ns.length, ex := 6, cs := fun _ => [.l (numC 4 ns)] }), (19, wF), (27, { ch := 0, hi := fun _ => 0, ex := 7, av := fun _ => .tp [.v (.string (ofL [])), .v (.int .i64 1)] }), (36, wF), (39, { ch := 0, hi := fun _ => 0, ex := 7, av := fun _ => .v (.bool false) }), (44, { ch := 0, hi := fun _ => 0, ex := 7, av := fun _ => .tp [.v (.string (ofL (keyB ps ps.length ++ p2S b))), .v (.int .i64 0)] }), (53, wF), (56, { ch := 0, hi := fun _ => 0, ex := 7, av := fun _ => .tp [.v (.string (ofL (ptsB ps))), .v (.int .i64 0)] }), (64, wO 0), (81, rO 6 0), (83, { ch := 0, hi := fun _ => 0, ex := 7, av := fun _ => .v (.string (ofL (numB ns))) }), (84, rO 6 0), (95, wT), (106, rO 6 0), (108, rO 6 0), (110, rO 6 0), (115, wF), (121, wT)]) (by kernel_rfl) ⟨_, rfl⟩
    (And.intro (show ((ofL (keyB ps ps.length ++ p2S b)).toList == (ofL (((mgK ++ (b4 .i64 (ps.length : Nat))) ++ (ptsB ps)) ++ p2S b)).toList) = true from by unfold keyB; rw [List.take_length]; simp)
      (And.intro (show (p2E b != 0) = false from by rw [h2]; rfl)
      (And.intro (show (ofL ((mgK ++ (b4 .i64 (ps.length : Nat))) ++ (ptsB ps))).size + (ofL (p2S b)).size ≤ 9223372036854775807 from by
        have h1 := sz_num ns
        have h2 := sz_pts ps
        have h3 := sz_p2 b
        simp only [sz_ap, sz_b4, sz_mgW, sz_mgK]
        omega)
      (And.intro (show (ofL (mgK ++ (b4 .i64 (ps.length : Nat)))).size + (ofL (ptsB ps)).size ≤ 9223372036854775807 from by
        have h1 := sz_num ns
        have h2 := sz_pts ps
        have h3 := sz_p2 b
        simp only [sz_ap, sz_b4, sz_mgW, sz_mgK]
        omega)
      (And.intro (show (ofL mgK).size + (ofL (b4 .i64 (ps.length : Nat))).size ≤ 9223372036854775807 from by
        have h1 := sz_num ns
        have h2 := sz_pts ps
        have h3 := sz_p2 b
        simp only [sz_ap, sz_b4, sz_mgW, sz_mgK]
        omega)
      (And.intro (show ((ofL []).toList == (ofL []).toList) = true from by simp)
      (And.intro (show (ofL (mgW ++ (b4 .i64 (ns.length : Nat)))).size + (ofL (numB ns)).size ≤ 9223372036854775807 from by
        have h1 := sz_num ns
        have h2 := sz_pts ps
        have h3 := sz_p2 b
        simp only [sz_ap, sz_b4, sz_mgW, sz_mgK]
        omega)
      (And.intro (show GivesE Try.prog 11 [.rz [.l (numC 4 ns)] ns.length] (.v (.string (ofL (numB ns)))) from ⟨fun vs w => Go.Proofs.enters_of (P := Try.prog) Try.func11 (by kernel_rfl) rfl vs w, lnum ns (by omega) hbn⟩)
      (And.intro (show (ofL mgW).size + (ofL (b4 .i64 (ns.length : Nat))).size ≤ 9223372036854775807 from by
        have h1 := sz_num ns
        have h2 := sz_pts ps
        have h3 := sz_p2 b
        simp only [sz_ap, sz_b4, sz_mgW, sz_mgK]
        omega)
      (And.intro (show sml2 b from hb)
      (And.intro (show GivesE Try.prog 16 [.rz [.l (ptsC ps)] ps.length] (.tp [.v (.string (ofL (ptsB ps))), .v (.int .i64 0)]) from ⟨fun vs w => Go.Proofs.enters_of (P := Try.prog) Try.func16 (by kernel_rfl) rfl vs w, pts_yes ps (by omega) hsp h1⟩)
      (And.intro (show decide (((ps.length : Nat) : Int) > 4096) = false from decide_eq_false (by omega))
      (And.intro (show GivesE Try.prog 15 [.ags [.z [.l (ptsC ps)] ps.length, .c (.n 6 b.1.1), .c (.n 6 b.1.2), .c (.n 6 b.2.1.1), .c (.n 6 b.2.1.2), .c (.c (.bool b.2.2))]] (.tp [.v (.string (ofL (keyB ps ps.length ++ p2S b))), .v (.int .i64 0)]) from ⟨fun vs w => Go.Proofs.enters_of (P := Try.prog) Try.func15 (by kernel_rfl) rfl vs w, key_ok ps b (by omega) hsp hb h1 h2⟩)
      (And.intro (show GivesE Try.prog 10 [.rz [.l (numC 4 ns)] ns.length] (.v (.bool false)) from ⟨fun vs w => Go.Proofs.enters_of (P := Try.prog) Try.func10 (by kernel_rfl) rfl vs w, lclean_no ns (by omega) hbn hc⟩)
      (And.intro (show decide (((ns.length : Nat) : Int) > 64) = false from decide_eq_false (by omega))
      (And.intro (show GivesE Try.prog 14 [.rz [.l (numC 4 ns)] ns.length] (.tp [.v (.string (ofL [])), .v (.int .i64 1)]) from ⟨fun vs w => Go.Proofs.enters_of (P := Try.prog) Try.func14 (by kernel_rfl) rfl vs w, pub_un ns hl hbn hc⟩)
      (And.intro (show decide (((ps.length : Nat) : Int) > 20) = false from decide_eq_false (by omega))
      (And.intro (show (100 : Int) = ((ns.length : Nat) : Int) ∧ ns.length ≤ n0.length ∧ flat [.l (numC 4 ns)] = (flat [.l (numC 4 n0)]).take (ns.length * 4) from cutN n0 ns en hn0)
      (And.intro (show decide (((n0.length : Nat) : Int) > 100) = true from decide_eq_true (by omega)) trivial)))))))))))))))))))
theorem fr_BAb1 (ns : List Nat) (ps : List A1) (b : A2) (hbn : sm4 ns) (hsp : smP1 ps) (hb : sml2 b) (n0 : List Nat) (en : ns = n0.take 100) (hn0 : 100 < n0.length) (hp : ps.length ≤ 20) (hl : ns.length ≤ 64) (hc : ¬ cleanN ns) (h1 : ptE ps ≠ 0) : Gives Try.prog 4 [.rz [.l (numC 4 n0)] n0.length, .ags [.z [.l (ptsC ps)] ps.length, .c (.n 6 b.1.1), .c (.n 6 b.1.2), .c (.n 6 b.2.1.1), .c (.n 6 b.2.1.2), .c (.c (.bool b.2.2))]] (.v (.bool true)) := by
  have hn : ns.length ≤ 100 := by rw [en, List.length_take]; omega
  exact fn_gives_at (P := Try.prog) (X := rulesY _) (env := [eFAlive, eLCnt, ePut2T]) ⟨eFAlive_ok, eLCnt_ok, ePut2T_ok, trivial⟩ Try.func4 1 (oL [(12, wT), (14, { ch := 0, hi := fun _ => ns.length, ex := 6, cs := fun _ => [.l (numC 4 ns)] }), (19, wF), (27, { ch := 0, hi := fun _ => 0, ex := 7, av := fun _ => .tp [.v (.string (ofL [])), .v (.int .i64 1)] }), (36, wF), (39, { ch := 0, hi := fun _ => 0, ex := 7, av := fun _ => .v (.bool false) }), (44, { ch := 0, hi := fun _ => 0, ex := 7, av := fun _ => .tp [.v (.string (ofL [])), .v (.int .i64 (ptE ps))] }), (53, wF), (56, { ch := 0, hi := fun _ => 0, ex := 7, av := fun _ => .tp [.v (.string (ofL [])), .v (.int .i64 (ptE ps))] }), (64, wO 0), (71, wF), (79, rO 6 0), (81, { ch := 0, hi := fun _ => 0, ex := 7, av := fun _ => .v (.string (ofL (numB ns))) }), (82, rO 6 0), (93, wT), (104, rO 6 0), (106, rO 6 0), (108, rO 6 0), (113, wT), (116, wT), (119, wT)]) (by kernel_rfl) ⟨_, rfl⟩
    (And.intro (show ((ofL []).toList == (ofL []).toList) = true from by simp)
      (And.intro (show ((ptE ps) == (ptE ps)) = true from by simp)
      (And.intro (show ((ptE ps) != 0) = true from by simpa using h1)
      (And.intro (show (ofL ((mgK ++ (b4 .i64 (ps.length : Nat))) ++ [])).size + (ofL (p2S b)).size ≤ 9223372036854775807 from by
        have h3 := sz_p2 b
        have h4 : (ofL []).size = 0 := rfl
        simp only [sz_ap, sz_b4, sz_mgK, h4]
        omega)
      (And.intro (show (ofL (mgK ++ (b4 .i64 (ps.length : Nat)))).size + (ofL []).size ≤ 9223372036854775807 from by simp only [sz_ap, sz_b4, sz_mgK]; decide)
      (And.intro (show (ofL mgK).size + (ofL (b4 .i64 (ps.length : Nat))).size ≤ 9223372036854775807 from by
        have h1 := sz_num ns
        have h2 := sz_pts ps
        have h3 := sz_p2 b
        simp only [sz_ap, sz_b4, sz_mgW, sz_mgK]
        omega)
      (And.intro (show ((ofL []).toList == (ofL []).toList) = true from by simp)
      (And.intro (show (ofL (mgW ++ (b4 .i64 (ns.length : Nat)))).size + (ofL (numB ns)).size ≤ 9223372036854775807 from by
        have h1 := sz_num ns
        have h2 := sz_pts ps
        have h3 := sz_p2 b
        simp only [sz_ap, sz_b4, sz_mgW, sz_mgK]
        omega)
      (And.intro (show GivesE Try.prog 11 [.rz [.l (numC 4 ns)] ns.length] (.v (.string (ofL (numB ns)))) from ⟨fun vs w => Go.Proofs.enters_of (P := Try.prog) Try.func11 (by kernel_rfl) rfl vs w, lnum ns (by omega) hbn⟩)
      (And.intro (show (ofL mgW).size + (ofL (b4 .i64 (ns.length : Nat))).size ≤ 9223372036854775807 from by
        have h1 := sz_num ns
        have h2 := sz_pts ps
        have h3 := sz_p2 b
        simp only [sz_ap, sz_b4, sz_mgW, sz_mgK]
        omega)
      (And.intro (show (ptE ps == 0) = false from by simpa using h1)
      (And.intro (show sml2 b from hb)
      (And.intro (show GivesE Try.prog 16 [.rz [.l (ptsC ps)] ps.length] (.tp [.v (.string (ofL [])), .v (.int .i64 (ptE ps))]) from ⟨fun vs w => Go.Proofs.enters_of (P := Try.prog) Try.func16 (by kernel_rfl) rfl vs w, pts_no ps (by omega) hsp h1⟩)
      (And.intro (show decide (((ps.length : Nat) : Int) > 4096) = false from decide_eq_false (by omega))
      (And.intro (show GivesE Try.prog 15 [.ags [.z [.l (ptsC ps)] ps.length, .c (.n 6 b.1.1), .c (.n 6 b.1.2), .c (.n 6 b.2.1.1), .c (.n 6 b.2.1.2), .c (.c (.bool b.2.2))]] (.tp [.v (.string (ofL [])), .v (.int .i64 (ptE ps))]) from ⟨fun vs w => Go.Proofs.enters_of (P := Try.prog) Try.func15 (by kernel_rfl) rfl vs w, key_e1 ps b (by omega) hsp hb h1⟩)
      (And.intro (show GivesE Try.prog 10 [.rz [.l (numC 4 ns)] ns.length] (.v (.bool false)) from ⟨fun vs w => Go.Proofs.enters_of (P := Try.prog) Try.func10 (by kernel_rfl) rfl vs w, lclean_no ns (by omega) hbn hc⟩)
      (And.intro (show decide (((ns.length : Nat) : Int) > 64) = false from decide_eq_false (by omega))
      (And.intro (show GivesE Try.prog 14 [.rz [.l (numC 4 ns)] ns.length] (.tp [.v (.string (ofL [])), .v (.int .i64 1)]) from ⟨fun vs w => Go.Proofs.enters_of (P := Try.prog) Try.func14 (by kernel_rfl) rfl vs w, pub_un ns hl hbn hc⟩)
      (And.intro (show decide (((ps.length : Nat) : Int) > 20) = false from decide_eq_false (by omega))
      (And.intro (show (100 : Int) = ((ns.length : Nat) : Int) ∧ ns.length ≤ n0.length ∧ flat [.l (numC 4 ns)] = (flat [.l (numC 4 n0)]).take (ns.length * 4) from cutN n0 ns en hn0)
      (And.intro (show decide (((n0.length : Nat) : Int) > 100) = true from decide_eq_true (by omega)) trivial)))))))))))))))))))))
theorem fr_BAb2 (ns : List Nat) (ps : List A1) (b : A2) (hbn : sm4 ns) (hsp : smP1 ps) (hb : sml2 b) (n0 : List Nat) (en : ns = n0.take 100) (hn0 : 100 < n0.length) (hp : ps.length ≤ 20) (hl : ns.length ≤ 64) (hc : ¬ cleanN ns) (h1 : ptE ps = 0) (h2 : p2E b ≠ 0) : Gives Try.prog 4 [.rz [.l (numC 4 n0)] n0.length, .ags [.z [.l (ptsC ps)] ps.length, .c (.n 6 b.1.1), .c (.n 6 b.1.2), .c (.n 6 b.2.1.1), .c (.n 6 b.2.1.2), .c (.c (.bool b.2.2))]] (.v (.bool true)) := by
  have hn : ns.length ≤ 100 := by rw [en, List.length_take]; omega
  exact fn_gives_at (P := Try.prog) (X := rulesY _) (env := [eFAlive, eLCnt, ePut2T]) ⟨eFAlive_ok, eLCnt_ok, ePut2T_ok, trivial⟩ Try.func4 1 (oL [(12, wT), (14, { ch := 0, hi := fun _ => ns.length, ex := 6, cs := fun _ => [.l (numC 4 ns)] }), (19, wF), (27, { ch := 0, hi := fun _ => 0, ex := 7, av := fun _ => .tp [.v (.string (ofL [])), .v (.int .i64 1)] }), (36, wF), (39, { ch := 0, hi := fun _ => 0, ex := 7, av := fun _ => .v (.bool false) }), (44, { ch := 0, hi := fun _ => 0, ex := 7, av := fun _ => .tp [.v (.string (ofL [])), .v (.int .i64 (p2E b))] }), (53, wF), (56, { ch := 0, hi := fun _ => 0, ex := 7, av := fun _ => .tp [.v (.string (ofL (ptsB ps))), .v (.int .i64 0)] }), (64, wO 0), (81, rO 6 0), (83, { ch := 0, hi := fun _ => 0, ex := 7, av := fun _ => .v (.string (ofL (numB ns))) }), (84, rO 6 0), (95, wT), (106, rO 6 0), (108, rO 6 0), (110, rO 6 0), (115, wT), (118, wT), (121, wT)]) (by kernel_rfl) ⟨_, rfl⟩
    (And.intro (show ((ofL []).toList == (ofL []).toList) = true from by simp)
      (And.intro (show ((p2E b) == (p2E b)) = true from by simp)
      (And.intro (show ((p2E b) != 0) = true from by simpa using h2)
      (And.intro (show (ofL ((mgK ++ (b4 .i64 (ps.length : Nat))) ++ (ptsB ps))).size + (ofL (p2S b)).size ≤ 9223372036854775807 from by
        have h1 := sz_num ns
        have h2 := sz_pts ps
        have h3 := sz_p2 b
        simp only [sz_ap, sz_b4, sz_mgW, sz_mgK]
        omega)
      (And.intro (show (ofL (mgK ++ (b4 .i64 (ps.length : Nat)))).size + (ofL (ptsB ps)).size ≤ 9223372036854775807 from by
        have h1 := sz_num ns
        have h2 := sz_pts ps
        have h3 := sz_p2 b
        simp only [sz_ap, sz_b4, sz_mgW, sz_mgK]
        omega)
      (And.intro (show (ofL mgK).size + (ofL (b4 .i64 (ps.length : Nat))).size ≤ 9223372036854775807 from by
        have h1 := sz_num ns
        have h2 := sz_pts ps
        have h3 := sz_p2 b
        simp only [sz_ap, sz_b4, sz_mgW, sz_mgK]
        omega)
      (And.intro (show ((ofL []).toList == (ofL []).toList) = true from by simp)
      (And.intro (show (ofL (mgW ++ (b4 .i64 (ns.length : Nat)))).size + (ofL (numB ns)).size ≤ 9223372036854775807 from by
        have h1 := sz_num ns
        have h2 := sz_pts ps
        have h3 := sz_p2 b
        simp only [sz_ap, sz_b4, sz_mgW, sz_mgK]
        omega)
      (And.intro (show GivesE Try.prog 11 [.rz [.l (numC 4 ns)] ns.length] (.v (.string (ofL (numB ns)))) from ⟨fun vs w => Go.Proofs.enters_of (P := Try.prog) Try.func11 (by kernel_rfl) rfl vs w, lnum ns (by omega) hbn⟩)
      (And.intro (show (ofL mgW).size + (ofL (b4 .i64 (ns.length : Nat))).size ≤ 9223372036854775807 from by
        have h1 := sz_num ns
        have h2 := sz_pts ps
        have h3 := sz_p2 b
        simp only [sz_ap, sz_b4, sz_mgW, sz_mgK]
        omega)
      (And.intro (show sml2 b from hb)
      (And.intro (show GivesE Try.prog 16 [.rz [.l (ptsC ps)] ps.length] (.tp [.v (.string (ofL (ptsB ps))), .v (.int .i64 0)]) from ⟨fun vs w => Go.Proofs.enters_of (P := Try.prog) Try.func16 (by kernel_rfl) rfl vs w, pts_yes ps (by omega) hsp h1⟩)
      (And.intro (show decide (((ps.length : Nat) : Int) > 4096) = false from decide_eq_false (by omega))
      (And.intro (show GivesE Try.prog 15 [.ags [.z [.l (ptsC ps)] ps.length, .c (.n 6 b.1.1), .c (.n 6 b.1.2), .c (.n 6 b.2.1.1), .c (.n 6 b.2.1.2), .c (.c (.bool b.2.2))]] (.tp [.v (.string (ofL [])), .v (.int .i64 (p2E b))]) from ⟨fun vs w => Go.Proofs.enters_of (P := Try.prog) Try.func15 (by kernel_rfl) rfl vs w, key_e2 ps b (by omega) hsp hb h1 h2⟩)
      (And.intro (show GivesE Try.prog 10 [.rz [.l (numC 4 ns)] ns.length] (.v (.bool false)) from ⟨fun vs w => Go.Proofs.enters_of (P := Try.prog) Try.func10 (by kernel_rfl) rfl vs w, lclean_no ns (by omega) hbn hc⟩)
      (And.intro (show decide (((ns.length : Nat) : Int) > 64) = false from decide_eq_false (by omega))
      (And.intro (show GivesE Try.prog 14 [.rz [.l (numC 4 ns)] ns.length] (.tp [.v (.string (ofL [])), .v (.int .i64 1)]) from ⟨fun vs w => Go.Proofs.enters_of (P := Try.prog) Try.func14 (by kernel_rfl) rfl vs w, pub_un ns hl hbn hc⟩)
      (And.intro (show decide (((ps.length : Nat) : Int) > 20) = false from decide_eq_false (by omega))
      (And.intro (show (100 : Int) = ((ns.length : Nat) : Int) ∧ ns.length ≤ n0.length ∧ flat [.l (numC 4 ns)] = (flat [.l (numC 4 n0)]).take (ns.length * 4) from cutN n0 ns en hn0)
      (And.intro (show decide (((n0.length : Nat) : Int) > 100) = true from decide_eq_true (by omega)) trivial))))))))))))))))))))
theorem fr_BAc0 (ns : List Nat) (ps : List A1) (b : A2) (hbn : sm4 ns) (hsp : smP1 ps) (hb : sml2 b) (n0 : List Nat) (en : ns = n0.take 100) (hn0 : 100 < n0.length) (hp : ps.length ≤ 20) (hl : ns.length ≤ 64) (hc : cleanN ns) (h1 : ptE ps = 0) (h2 : p2E b = 0) : Gives Try.prog 4 [.rz [.l (numC 4 n0)] n0.length, .ags [.z [.l (ptsC ps)] ps.length, .c (.n 6 b.1.1), .c (.n 6 b.1.2), .c (.n 6 b.2.1.1), .c (.n 6 b.2.1.2), .c (.c (.bool b.2.2))]] (.v (.bool true)) := by
  have hn : ns.length ≤ 100 := by rw [en, List.length_take]; omega
  exact fn_gives_at (P := Try.prog) (X := rulesY _) (env := [eFAlive, eLCnt, ePut2T]) ⟨eFAlive_ok, eLCnt_ok, ePut2T_ok, trivial⟩ Try.func4 1 (oL [(12, wT), (14, { ch := 0, hi := fun _ => ns.length, ex := 6, cs := fun _ => [.l (numC 4 ns)] }), (19, wF), (27, { ch := 0, hi := fun _ => 0, ex := 7, av := fun _ => .tp [.v (.string (ofL (pubB ns ns.length))), .v (.int .i64 0)] }), (36, wF), (39, { ch := 0, hi := fun _ => 0, ex := 7, av := fun _ => .v (.bool true) }), (43, { ch := 0, hi := fun _ => 0, ex := 7, av := fun _ => .tp [.v (.string (ofL (keyB ps ps.length ++ p2S b))), .v (.int .i64 0)] }), (52, wF), (55, { ch := 0, hi := fun _ => 0, ex := 7, av := fun _ => .tp [.v (.string (ofL (ptsB ps))), .v (.int .i64 0)] }), (63, wO 0), (80, rO 6 0), (82, { ch := 0, hi := fun _ => 0, ex := 7, av := fun _ => .v (.string (ofL (numB ns))) }), (83, rO 6 0), (94, wT), (105, rO 6 0), (107, rO 6 0), (109, rO 6 0), (114, wF), (120, wT)]) (by kernel_rfl) ⟨_, rfl⟩
    (And.intro (show ((ofL (keyB ps ps.length ++ p2S b)).toList == (ofL (((mgK ++ (b4 .i64 (ps.length : Nat))) ++ (ptsB ps)) ++ p2S b)).toList) = true from by unfold keyB; rw [List.take_length]; simp)
      (And.intro (show (p2E b != 0) = false from by rw [h2]; rfl)
      (And.intro (show (ofL ((mgK ++ (b4 .i64 (ps.length : Nat))) ++ (ptsB ps))).size + (ofL (p2S b)).size ≤ 9223372036854775807 from by
        have h1 := sz_num ns
        have h2 := sz_pts ps
        have h3 := sz_p2 b
        simp only [sz_ap, sz_b4, sz_mgW, sz_mgK]
        omega)
      (And.intro (show (ofL (mgK ++ (b4 .i64 (ps.length : Nat)))).size + (ofL (ptsB ps)).size ≤ 9223372036854775807 from by
        have h1 := sz_num ns
        have h2 := sz_pts ps
        have h3 := sz_p2 b
        simp only [sz_ap, sz_b4, sz_mgW, sz_mgK]
        omega)
      (And.intro (show (ofL mgK).size + (ofL (b4 .i64 (ps.length : Nat))).size ≤ 9223372036854775807 from by
        have h1 := sz_num ns
        have h2 := sz_pts ps
        have h3 := sz_p2 b
        simp only [sz_ap, sz_b4, sz_mgW, sz_mgK]
        omega)
      (And.intro (show ((ofL (pubB ns ns.length)).toList == (ofL ((mgW ++ (b4 .i64 (ns.length : Nat))) ++ numB ns)).toList) = true from by unfold pubB; rw [List.take_length]; simp)
      (And.intro (show (ofL (mgW ++ (b4 .i64 (ns.length : Nat)))).size + (ofL (numB ns)).size ≤ 9223372036854775807 from by
        have h1 := sz_num ns
        have h2 := sz_pts ps
        have h3 := sz_p2 b
        simp only [sz_ap, sz_b4, sz_mgW, sz_mgK]
        omega)
      (And.intro (show GivesE Try.prog 11 [.rz [.l (numC 4 ns)] ns.length] (.v (.string (ofL (numB ns)))) from ⟨fun vs w => Go.Proofs.enters_of (P := Try.prog) Try.func11 (by kernel_rfl) rfl vs w, lnum ns (by omega) hbn⟩)
      (And.intro (show (ofL mgW).size + (ofL (b4 .i64 (ns.length : Nat))).size ≤ 9223372036854775807 from by
        have h1 := sz_num ns
        have h2 := sz_pts ps
        have h3 := sz_p2 b
        simp only [sz_ap, sz_b4, sz_mgW, sz_mgK]
        omega)
      (And.intro (show sml2 b from hb)
      (And.intro (show GivesE Try.prog 16 [.rz [.l (ptsC ps)] ps.length] (.tp [.v (.string (ofL (ptsB ps))), .v (.int .i64 0)]) from ⟨fun vs w => Go.Proofs.enters_of (P := Try.prog) Try.func16 (by kernel_rfl) rfl vs w, pts_yes ps (by omega) hsp h1⟩)
      (And.intro (show decide (((ps.length : Nat) : Int) > 4096) = false from decide_eq_false (by omega))
      (And.intro (show GivesE Try.prog 15 [.ags [.z [.l (ptsC ps)] ps.length, .c (.n 6 b.1.1), .c (.n 6 b.1.2), .c (.n 6 b.2.1.1), .c (.n 6 b.2.1.2), .c (.c (.bool b.2.2))]] (.tp [.v (.string (ofL (keyB ps ps.length ++ p2S b))), .v (.int .i64 0)]) from ⟨fun vs w => Go.Proofs.enters_of (P := Try.prog) Try.func15 (by kernel_rfl) rfl vs w, key_ok ps b (by omega) hsp hb h1 h2⟩)
      (And.intro (show GivesE Try.prog 10 [.rz [.l (numC 4 ns)] ns.length] (.v (.bool true)) from ⟨fun vs w => Go.Proofs.enters_of (P := Try.prog) Try.func10 (by kernel_rfl) rfl vs w, lclean_yes ns (by omega) hbn hc⟩)
      (And.intro (show decide (((ns.length : Nat) : Int) > 64) = false from decide_eq_false (by omega))
      (And.intro (show GivesE Try.prog 14 [.rz [.l (numC 4 ns)] ns.length] (.tp [.v (.string (ofL (pubB ns ns.length))), .v (.int .i64 0)]) from ⟨fun vs w => Go.Proofs.enters_of (P := Try.prog) Try.func14 (by kernel_rfl) rfl vs w, pub_ok ns hl hbn hc⟩)
      (And.intro (show decide (((ps.length : Nat) : Int) > 20) = false from decide_eq_false (by omega))
      (And.intro (show (100 : Int) = ((ns.length : Nat) : Int) ∧ ns.length ≤ n0.length ∧ flat [.l (numC 4 ns)] = (flat [.l (numC 4 n0)]).take (ns.length * 4) from cutN n0 ns en hn0)
      (And.intro (show decide (((n0.length : Nat) : Int) > 100) = true from decide_eq_true (by omega)) trivial)))))))))))))))))))
theorem fr_BAc1 (ns : List Nat) (ps : List A1) (b : A2) (hbn : sm4 ns) (hsp : smP1 ps) (hb : sml2 b) (n0 : List Nat) (en : ns = n0.take 100) (hn0 : 100 < n0.length) (hp : ps.length ≤ 20) (hl : ns.length ≤ 64) (hc : cleanN ns) (h1 : ptE ps ≠ 0) : Gives Try.prog 4 [.rz [.l (numC 4 n0)] n0.length, .ags [.z [.l (ptsC ps)] ps.length, .c (.n 6 b.1.1), .c (.n 6 b.1.2), .c (.n 6 b.2.1.1), .c (.n 6 b.2.1.2), .c (.c (.bool b.2.2))]] (.v (.bool true)) := by
  have hn : ns.length ≤ 100 := by rw [en, List.length_take]; omega
  exact fn_gives_at (P := Try.prog) (X := rulesY _) (env := [eFAlive, eLCnt, ePut2T]) ⟨eFAlive_ok, eLCnt_ok, ePut2T_ok, trivial⟩ Try.func4 1 (oL [(12, wT), (14, { ch := 0, hi := fun _ => ns.length, ex := 6, cs := fun _ => [.l (numC 4 ns)] }), (19, wF), (27, { ch := 0, hi := fun _ => 0, ex := 7, av := fun _ => .tp [.v (.string (ofL (pubB ns ns.length))), .v (.int .i64 0)] }), (36, wF), (39, { ch := 0, hi := fun _ => 0, ex := 7, av := fun _ => .v (.bool true) }), (43, { ch := 0, hi := fun _ => 0, ex := 7, av := fun _ => .tp [.v (.string (ofL [])), .v (.int .i64 (ptE ps))] }), (52, wF), (55, { ch := 0, hi := fun _ => 0, ex := 7, av := fun _ => .tp [.v (.string (ofL [])), .v (.int .i64 (ptE ps))] }), (63, wO 0), (70, wF), (78, rO 6 0), (80, { ch := 0, hi := fun _ => 0, ex := 7, av := fun _ => .v (.string (ofL (numB ns))) }), (81, rO 6 0), (92, wT), (103, rO 6 0), (105, rO 6 0), (107, rO 6 0), (112, wT), (115, wT), (118, wT)]) (by kernel_rfl) ⟨_, rfl⟩
    (And.intro (show ((ofL []).toList == (ofL []).toList) = true from by simp)
      (And.intro (show ((ptE ps) == (ptE ps)) = true from by simp)
      (And.intro (show ((ptE ps) != 0) = true from by simpa using h1)
      (And.intro (show (ofL ((mgK ++ (b4 .i64 (ps.length : Nat))) ++ [])).size + (ofL (p2S b)).size ≤ 9223372036854775807 from by
        have h3 := sz_p2 b
        have h4 : (ofL []).size = 0 := rfl
        simp only [sz_ap, sz_b4, sz_mgK, h4]
        omega)
      (And.intro (show (ofL (mgK ++ (b4 .i64 (ps.length : Nat)))).size + (ofL []).size ≤ 9223372036854775807 from by simp only [sz_ap, sz_b4, sz_mgK]; decide)
      (And.intro (show (ofL mgK).size + (ofL (b4 .i64 (ps.length : Nat))).size ≤ 9223372036854775807 from by
        have h1 := sz_num ns
        have h2 := sz_pts ps
        have h3 := sz_p2 b
        simp only [sz_ap, sz_b4, sz_mgW, sz_mgK]
        omega)
      (And.intro (show ((ofL (pubB ns ns.length)).toList == (ofL ((mgW ++ (b4 .i64 (ns.length : Nat))) ++ numB ns)).toList) = true from by unfold pubB; rw [List.take_length]; simp)
      (And.intro (show (ofL (mgW ++ (b4 .i64 (ns.length : Nat)))).size + (ofL (numB ns)).size ≤ 9223372036854775807 from by
        have h1 := sz_num ns
        have h2 := sz_pts ps
        have h3 := sz_p2 b
        simp only [sz_ap, sz_b4, sz_mgW, sz_mgK]
        omega)
      (And.intro (show GivesE Try.prog 11 [.rz [.l (numC 4 ns)] ns.length] (.v (.string (ofL (numB ns)))) from ⟨fun vs w => Go.Proofs.enters_of (P := Try.prog) Try.func11 (by kernel_rfl) rfl vs w, lnum ns (by omega) hbn⟩)
      (And.intro (show (ofL mgW).size + (ofL (b4 .i64 (ns.length : Nat))).size ≤ 9223372036854775807 from by
        have h1 := sz_num ns
        have h2 := sz_pts ps
        have h3 := sz_p2 b
        simp only [sz_ap, sz_b4, sz_mgW, sz_mgK]
        omega)
      (And.intro (show (ptE ps == 0) = false from by simpa using h1)
      (And.intro (show sml2 b from hb)
      (And.intro (show GivesE Try.prog 16 [.rz [.l (ptsC ps)] ps.length] (.tp [.v (.string (ofL [])), .v (.int .i64 (ptE ps))]) from ⟨fun vs w => Go.Proofs.enters_of (P := Try.prog) Try.func16 (by kernel_rfl) rfl vs w, pts_no ps (by omega) hsp h1⟩)
      (And.intro (show decide (((ps.length : Nat) : Int) > 4096) = false from decide_eq_false (by omega))
      (And.intro (show GivesE Try.prog 15 [.ags [.z [.l (ptsC ps)] ps.length, .c (.n 6 b.1.1), .c (.n 6 b.1.2), .c (.n 6 b.2.1.1), .c (.n 6 b.2.1.2), .c (.c (.bool b.2.2))]] (.tp [.v (.string (ofL [])), .v (.int .i64 (ptE ps))]) from ⟨fun vs w => Go.Proofs.enters_of (P := Try.prog) Try.func15 (by kernel_rfl) rfl vs w, key_e1 ps b (by omega) hsp hb h1⟩)
      (And.intro (show GivesE Try.prog 10 [.rz [.l (numC 4 ns)] ns.length] (.v (.bool true)) from ⟨fun vs w => Go.Proofs.enters_of (P := Try.prog) Try.func10 (by kernel_rfl) rfl vs w, lclean_yes ns (by omega) hbn hc⟩)
      (And.intro (show decide (((ns.length : Nat) : Int) > 64) = false from decide_eq_false (by omega))
      (And.intro (show GivesE Try.prog 14 [.rz [.l (numC 4 ns)] ns.length] (.tp [.v (.string (ofL (pubB ns ns.length))), .v (.int .i64 0)]) from ⟨fun vs w => Go.Proofs.enters_of (P := Try.prog) Try.func14 (by kernel_rfl) rfl vs w, pub_ok ns hl hbn hc⟩)
      (And.intro (show decide (((ps.length : Nat) : Int) > 20) = false from decide_eq_false (by omega))
      (And.intro (show (100 : Int) = ((ns.length : Nat) : Int) ∧ ns.length ≤ n0.length ∧ flat [.l (numC 4 ns)] = (flat [.l (numC 4 n0)]).take (ns.length * 4) from cutN n0 ns en hn0)
      (And.intro (show decide (((n0.length : Nat) : Int) > 100) = true from decide_eq_true (by omega)) trivial)))))))))))))))))))))
theorem fr_BAc2 (ns : List Nat) (ps : List A1) (b : A2) (hbn : sm4 ns) (hsp : smP1 ps) (hb : sml2 b) (n0 : List Nat) (en : ns = n0.take 100) (hn0 : 100 < n0.length) (hp : ps.length ≤ 20) (hl : ns.length ≤ 64) (hc : cleanN ns) (h1 : ptE ps = 0) (h2 : p2E b ≠ 0) : Gives Try.prog 4 [.rz [.l (numC 4 n0)] n0.length, .ags [.z [.l (ptsC ps)] ps.length, .c (.n 6 b.1.1), .c (.n 6 b.1.2), .c (.n 6 b.2.1.1), .c (.n 6 b.2.1.2), .c (.c (.bool b.2.2))]] (.v (.bool true)) := by
  have hn : ns.length ≤ 100 := by rw [en, List.length_take]; omega
  exact fn_gives_at (P := Try.prog) (X := rulesY _) (env := [eFAlive, eLCnt, ePut2T]) ⟨eFAlive_ok, eLCnt_ok, ePut2T_ok, trivial⟩ Try.func4 1 (oL [(12, wT), (14, { ch := 0, hi := fun _ => ns.length, ex := 6, cs := fun _ => [.l (numC 4 ns)] }), (19, wF), (27, { ch := 0, hi := fun _ => 0, ex := 7, av := fun _ => .tp [.v (.string (ofL (pubB ns ns.length))), .v (.int .i64 0)] }), (36, wF), (39, { ch := 0, hi := fun _ => 0, ex := 7, av := fun _ => .v (.bool true) }), (43, { ch := 0, hi := fun _ => 0, ex := 7, av := fun _ => .tp [.v (.string (ofL [])), .v (.int .i64 (p2E b))] }), (52, wF), (55, { ch := 0, hi := fun _ => 0, ex := 7, av := fun _ => .tp [.v (.string (ofL (ptsB ps))), .v (.int .i64 0)] }), (63, wO 0), (80, rO 6 0), (82, { ch := 0, hi := fun _ => 0, ex := 7, av := fun _ => .v (.string (ofL (numB ns))) }), (83, rO 6 0), (94, wT), (105, rO 6 0), (107, rO 6 0), (109, rO 6 0), (114, wT), (117, wT), (120, wT)]) (by kernel_rfl) ⟨_, rfl⟩
    (And.intro (show ((ofL []).toList == (ofL []).toList) = true from by simp)
      (And.intro (show ((p2E b) == (p2E b)) = true from by simp)
      (And.intro (show ((p2E b) != 0) = true from by simpa using h2)
      (And.intro (show (ofL ((mgK ++ (b4 .i64 (ps.length : Nat))) ++ (ptsB ps))).size + (ofL (p2S b)).size ≤ 9223372036854775807 from by
        have h1 := sz_num ns
        have h2 := sz_pts ps
        have h3 := sz_p2 b
        simp only [sz_ap, sz_b4, sz_mgW, sz_mgK]
        omega)
      (And.intro (show (ofL (mgK ++ (b4 .i64 (ps.length : Nat)))).size + (ofL (ptsB ps)).size ≤ 9223372036854775807 from by
        have h1 := sz_num ns
        have h2 := sz_pts ps
        have h3 := sz_p2 b
        simp only [sz_ap, sz_b4, sz_mgW, sz_mgK]
        omega)
      (And.intro (show (ofL mgK).size + (ofL (b4 .i64 (ps.length : Nat))).size ≤ 9223372036854775807 from by
        have h1 := sz_num ns
        have h2 := sz_pts ps
        have h3 := sz_p2 b
        simp only [sz_ap, sz_b4, sz_mgW, sz_mgK]
        omega)
      (And.intro (show ((ofL (pubB ns ns.length)).toList == (ofL ((mgW ++ (b4 .i64 (ns.length : Nat))) ++ numB ns)).toList) = true from by unfold pubB; rw [List.take_length]; simp)
      (And.intro (show (ofL (mgW ++ (b4 .i64 (ns.length : Nat)))).size + (ofL (numB ns)).size ≤ 9223372036854775807 from by
        have h1 := sz_num ns
        have h2 := sz_pts ps
        have h3 := sz_p2 b
        simp only [sz_ap, sz_b4, sz_mgW, sz_mgK]
        omega)
      (And.intro (show GivesE Try.prog 11 [.rz [.l (numC 4 ns)] ns.length] (.v (.string (ofL (numB ns)))) from ⟨fun vs w => Go.Proofs.enters_of (P := Try.prog) Try.func11 (by kernel_rfl) rfl vs w, lnum ns (by omega) hbn⟩)
      (And.intro (show (ofL mgW).size + (ofL (b4 .i64 (ns.length : Nat))).size ≤ 9223372036854775807 from by
        have h1 := sz_num ns
        have h2 := sz_pts ps
        have h3 := sz_p2 b
        simp only [sz_ap, sz_b4, sz_mgW, sz_mgK]
        omega)
      (And.intro (show sml2 b from hb)
      (And.intro (show GivesE Try.prog 16 [.rz [.l (ptsC ps)] ps.length] (.tp [.v (.string (ofL (ptsB ps))), .v (.int .i64 0)]) from ⟨fun vs w => Go.Proofs.enters_of (P := Try.prog) Try.func16 (by kernel_rfl) rfl vs w, pts_yes ps (by omega) hsp h1⟩)
      (And.intro (show decide (((ps.length : Nat) : Int) > 4096) = false from decide_eq_false (by omega))
      (And.intro (show GivesE Try.prog 15 [.ags [.z [.l (ptsC ps)] ps.length, .c (.n 6 b.1.1), .c (.n 6 b.1.2), .c (.n 6 b.2.1.1), .c (.n 6 b.2.1.2), .c (.c (.bool b.2.2))]] (.tp [.v (.string (ofL [])), .v (.int .i64 (p2E b))]) from ⟨fun vs w => Go.Proofs.enters_of (P := Try.prog) Try.func15 (by kernel_rfl) rfl vs w, key_e2 ps b (by omega) hsp hb h1 h2⟩)
      (And.intro (show GivesE Try.prog 10 [.rz [.l (numC 4 ns)] ns.length] (.v (.bool true)) from ⟨fun vs w => Go.Proofs.enters_of (P := Try.prog) Try.func10 (by kernel_rfl) rfl vs w, lclean_yes ns (by omega) hbn hc⟩)
      (And.intro (show decide (((ns.length : Nat) : Int) > 64) = false from decide_eq_false (by omega))
      (And.intro (show GivesE Try.prog 14 [.rz [.l (numC 4 ns)] ns.length] (.tp [.v (.string (ofL (pubB ns ns.length))), .v (.int .i64 0)]) from ⟨fun vs w => Go.Proofs.enters_of (P := Try.prog) Try.func14 (by kernel_rfl) rfl vs w, pub_ok ns hl hbn hc⟩)
      (And.intro (show decide (((ps.length : Nat) : Int) > 20) = false from decide_eq_false (by omega))
      (And.intro (show (100 : Int) = ((ns.length : Nat) : Int) ∧ ns.length ≤ n0.length ∧ flat [.l (numC 4 ns)] = (flat [.l (numC 4 n0)]).take (ns.length * 4) from cutN n0 ns en hn0)
      (And.intro (show decide (((n0.length : Nat) : Int) > 100) = true from decide_eq_true (by omega)) trivial))))))))))))))))))))
theorem fr_BBa0 (ns : List Nat) (ps : List A1) (b : A2) (hbn : sm4 ns) (hsp : smP1 ps) (hb : sml2 b) (n0 : List Nat) (en : ns = n0.take 100) (hn0 : 100 < n0.length) (p0 : List A1) (ep : ps = p0.take 20) (hp0 : 20 < p0.length) (hp4 : p0.length ≤ 4096) (hl : 64 < ns.length) (h1 : ptE ps = 0) (h2 : p2E b = 0) : Gives Try.prog 4 [.rz [.l (numC 4 n0)] n0.length, .ags [.z [.l (ptsC p0)] p0.length, .c (.n 6 b.1.1), .c (.n 6 b.1.2), .c (.n 6 b.2.1.1), .c (.n 6 b.2.1.2), .c (.c (.bool b.2.2))]] (.v (.bool true)) := by
  have hn : ns.length ≤ 100 := by rw [en, List.length_take]; omega
  have hp : ps.length ≤ 20 := by rw [ep, List.length_take]; omega
  exact fn_gives_at (P := Try.prog) (X := rulesY _) (env := [eFAlive, eLCnt, ePut2T]) ⟨eFAlive_ok, eLCnt_ok, ePut2T_ok, trivial⟩ Try.func4 1 (oL [(12, wT), (14, { ch := 0, hi := fun _ => ns.length, ex := 6, cs := fun _ => [.l (numC 4 ns)] }), (19, wT), (24, wT), (28, { ch := 0, hi := fun _ => ps.length, ex := 6, cs := fun _ => [.l (ptsC ps)] }), (32, { ch := 0, hi := fun _ => 0, ex := 7, av := fun _ => .tp [.v (.string (ofL [])), .v (.int .i64 1)] }), (41, wT), (49, { ch := 0, hi := fun _ => 0, ex := 7, av := fun _ => .tp [.v (.string (ofL (keyB ps ps.length ++ p2S b))), .v (.int .i64 0)] }), (58, wF), (61, { ch := 0, hi := fun _ => 0, ex := 7, av := fun _ => .tp [.v (.string (ofL (ptsB ps))), .v (.int .i64 0)] }), (69, wO 0), (86, rO 6 0), (88, { ch := 0, hi := fun _ => 0, ex := 7, av := fun _ => .v (.string (ofL (numB ns))) }), (89, rO 6 0), (100, wT), (111, rO 6 0), (113, rO 6 0), (115, rO 6 0), (120, wF), (126, wT)]) (by kernel_rfl) ⟨_, rfl⟩
    (And.intro (show ((ofL (keyB ps ps.length ++ p2S b)).toList == (ofL (((mgK ++ (b4 .i64 (ps.length : Nat))) ++ (ptsB ps)) ++ p2S b)).toList) = true from by unfold keyB; rw [List.take_length]; simp)
      (And.intro (show (p2E b != 0) = false from by rw [h2]; rfl)
      (And.intro (show (ofL ((mgK ++ (b4 .i64 (ps.length : Nat))) ++ (ptsB ps))).size + (ofL (p2S b)).size ≤ 9223372036854775807 from by
        have h1 := sz_num ns
        have h2 := sz_pts ps
        have h3 := sz_p2 b
        simp only [sz_ap, sz_b4, sz_mgW, sz_mgK]
        omega)
      (And.intro (show (ofL (mgK ++ (b4 .i64 (ps.length : Nat)))).size + (ofL (ptsB ps)).size ≤ 9223372036854775807 from by
        have h1 := sz_num ns
        have h2 := sz_pts ps
        have h3 := sz_p2 b
        simp only [sz_ap, sz_b4, sz_mgW, sz_mgK]
        omega)
      (And.intro (show (ofL mgK).size + (ofL (b4 .i64 (ps.length : Nat))).size ≤ 9223372036854775807 from by
        have h1 := sz_num ns
        have h2 := sz_pts ps
        have h3 := sz_p2 b
        simp only [sz_ap, sz_b4, sz_mgW, sz_mgK]
        omega)
      (And.intro (show ((ofL []).toList == (ofL []).toList) = true from by simp)
      (And.intro (show (ofL (mgW ++ (b4 .i64 (ns.length : Nat)))).size + (ofL (numB ns)).size ≤ 9223372036854775807 from by
        have h1 := sz_num ns
        have h2 := sz_pts ps
        have h3 := sz_p2 b
        simp only [sz_ap, sz_b4, sz_mgW, sz_mgK]
        omega)
      (And.intro (show GivesE Try.prog 11 [.rz [.l (numC 4 ns)] ns.length] (.v (.string (ofL (numB ns)))) from ⟨fun vs w => Go.Proofs.enters_of (P := Try.prog) Try.func11 (by kernel_rfl) rfl vs w, lnum ns (by omega) hbn⟩)
      (And.intro (show (ofL mgW).size + (ofL (b4 .i64 (ns.length : Nat))).size ≤ 9223372036854775807 from by
        have h1 := sz_num ns
        have h2 := sz_pts ps
        have h3 := sz_p2 b
        simp only [sz_ap, sz_b4, sz_mgW, sz_mgK]
        omega)
      (And.intro (show sml2 b from hb)
      (And.intro (show GivesE Try.prog 16 [.rz [.l (ptsC ps)] ps.length] (.tp [.v (.string (ofL (ptsB ps))), .v (.int .i64 0)]) from ⟨fun vs w => Go.Proofs.enters_of (P := Try.prog) Try.func16 (by kernel_rfl) rfl vs w, pts_yes ps (by omega) hsp h1⟩)
      (And.intro (show decide (((ps.length : Nat) : Int) > 4096) = false from decide_eq_false (by omega))
      (And.intro (show GivesE Try.prog 15 [.ags [.z [.l (ptsC ps)] ps.length, .c (.n 6 b.1.1), .c (.n 6 b.1.2), .c (.n 6 b.2.1.1), .c (.n 6 b.2.1.2), .c (.c (.bool b.2.2))]] (.tp [.v (.string (ofL (keyB ps ps.length ++ p2S b))), .v (.int .i64 0)]) from ⟨fun vs w => Go.Proofs.enters_of (P := Try.prog) Try.func15 (by kernel_rfl) rfl vs w, key_ok ps b (by omega) hsp hb h1 h2⟩)
      (And.intro (show decide (((ns.length : Nat) : Int) > 64) = true from decide_eq_true (by omega))
      (And.intro (show GivesE Try.prog 14 [.rz [.l (numC 4 ns)] ns.length] (.tp [.v (.string (ofL [])), .v (.int .i64 1)]) from ⟨fun vs w => Go.Proofs.enters_of (P := Try.prog) Try.func14 (by kernel_rfl) rfl vs w, pub_long ns hl⟩)
      (And.intro (show (20 : Int) = ((ps.length : Nat) : Int) ∧ ps.length ≤ p0.length ∧ flat [.l (ptsC ps)] = (flat [.l (ptsC p0)]).take (ps.length * 13) from cutP p0 ps ep hp0)
      (And.intro (show decide (((p0.length : Nat) : Int) ≤ 4096) = true from decide_eq_true (by omega))
      (And.intro (show decide (((p0.length : Nat) : Int) > 20) = true from decide_eq_true (by omega))
      (And.intro (show (100 : Int) = ((ns.length : Nat) : Int) ∧ ns.length ≤ n0.length ∧ flat [.l (numC 4 ns)] = (flat [.l (numC 4 n0)]).take (ns.length * 4) from cutN n0 ns en hn0)
      (And.intro (show decide (((n0.length : Nat) : Int) > 100) = true from decide_eq_true (by omega)) trivial))))))))))))))))))))
theorem fr_BBa1 (ns : List Nat) (ps : List A1) (b : A2) (hbn : sm4 ns) (hsp : smP1 ps) (hb : sml2 b) (n0 : List Nat) (en : ns = n0.take 100) (hn0 : 100 < n0.length) (p0 : List A1) (ep : ps = p0.take 20) (hp0 : 20 < p0.length) (hp4 : p0.length ≤ 4096) (hl : 64 < ns.length) (h1 : ptE ps ≠ 0) : Gives Try.prog 4 [.rz [.l (numC 4 n0)] n0.length, .ags [.z [.l (ptsC p0)] p0.length, .c (.n 6 b.1.1), .c (.n 6 b.1.2), .c (.n 6 b.2.1.1), .c (.n 6 b.2.1.2), .c (.c (.bool b.2.2))]] (.v (.bool true)) := by
  have hn : ns.length ≤ 100 := by rw [en, List.length_take]; omega
  have hp : ps.length ≤ 20 := by rw [ep, List.length_take]; omega
  exact fn_gives_at (P := Try.prog) (X := rulesY _) (env := [eFAlive, eLCnt, ePut2T]) ⟨eFAlive_ok, eLCnt_ok, ePut2T_ok, trivial⟩ Try.func4 1 (oL [(12, wT), (14, { ch := 0, hi := fun _ => ns.length, ex := 6, cs := fun _ => [.l (numC 4 ns)] }), (19, wT), (24, wT), (28, { ch := 0, hi := fun _ => ps.length, ex := 6, cs := fun _ => [.l (ptsC ps)] }), (32, { ch := 0, hi := fun _ => 0, ex := 7, av := fun _ => .tp [.v (.string (ofL [])), .v (.int .i64 1)] }), (41, wT), (49, { ch := 0, hi := fun _ => 0, ex := 7, av := fun _ => .tp [.v (.string (ofL [])), .v (.int .i64 (ptE ps))] }), (58, wF), (61, { ch := 0, hi := fun _ => 0, ex := 7, av := fun _ => .tp [.v (.string (ofL [])), .v (.int .i64 (ptE ps))] }), (69, wO 0), (76, wF), (84, rO 6 0), (86, { ch := 0, hi := fun _ => 0, ex := 7, av := fun _ => .v (.string (ofL (numB ns))) }), (87, rO 6 0), (98, wT), (109, rO 6 0), (111, rO 6 0), (113, rO 6 0), (118, wT), (121, wT), (124, wT)]) (by kernel_rfl) ⟨_, rfl⟩
    (And.intro (show ((ofL []).toList == (ofL []).toList) = true from by simp)
      (And.intro (show ((ptE ps) == (ptE ps)) = true from by simp)
      (And.intro (show ((ptE ps) != 0) = true from by simpa using h1)
      (And.intro (show (ofL ((mgK ++ (b4 .i64 (ps.length : Nat))) ++ [])).size + (ofL (p2S b)).size ≤ 9223372036854775807 from by
        have h3 := sz_p2 b
        have h4 : (ofL []).size = 0 := rfl
        simp only [sz_ap, sz_b4, sz_mgK, h4]
        omega)
      (And.intro (show (ofL (mgK ++ (b4 .i64 (ps.length : Nat)))).size + (ofL []).size ≤ 9223372036854775807 from by simp only [sz_ap, sz_b4, sz_mgK]; decide)
      (And.intro (show (ofL mgK).size + (ofL (b4 .i64 (ps.length : Nat))).size ≤ 9223372036854775807 from by
        have h1 := sz_num ns
        have h2 := sz_pts ps
        have h3 := sz_p2 b
        simp only [sz_ap, sz_b4, sz_mgW, sz_mgK]
        omega)
      (And.intro (show ((ofL []).toList == (ofL []).toList) = true from by simp)
      (And.intro (show (ofL (mgW ++ (b4 .i64 (ns.length : Nat)))).size + (ofL (numB ns)).size ≤ 9223372036854775807 from by
        have h1 := sz_num ns
        have h2 := sz_pts ps
        have h3 := sz_p2 b
        simp only [sz_ap, sz_b4, sz_mgW, sz_mgK]
        omega)
      (And.intro (show GivesE Try.prog 11 [.rz [.l (numC 4 ns)] ns.length] (.v (.string (ofL (numB ns)))) from ⟨fun vs w => Go.Proofs.enters_of (P := Try.prog) Try.func11 (by kernel_rfl) rfl vs w, lnum ns (by omega) hbn⟩)
      (And.intro (show (ofL mgW).size + (ofL (b4 .i64 (ns.length : Nat))).size ≤ 9223372036854775807 from by
        have h1 := sz_num ns
        have h2 := sz_pts ps
        have h3 := sz_p2 b
        simp only [sz_ap, sz_b4, sz_mgW, sz_mgK]
        omega)
      (And.intro (show (ptE ps == 0) = false from by simpa using h1)
      (And.intro (show sml2 b from hb)
      (And.intro (show GivesE Try.prog 16 [.rz [.l (ptsC ps)] ps.length] (.tp [.v (.string (ofL [])), .v (.int .i64 (ptE ps))]) from ⟨fun vs w => Go.Proofs.enters_of (P := Try.prog) Try.func16 (by kernel_rfl) rfl vs w, pts_no ps (by omega) hsp h1⟩)
      (And.intro (show decide (((ps.length : Nat) : Int) > 4096) = false from decide_eq_false (by omega))
      (And.intro (show GivesE Try.prog 15 [.ags [.z [.l (ptsC ps)] ps.length, .c (.n 6 b.1.1), .c (.n 6 b.1.2), .c (.n 6 b.2.1.1), .c (.n 6 b.2.1.2), .c (.c (.bool b.2.2))]] (.tp [.v (.string (ofL [])), .v (.int .i64 (ptE ps))]) from ⟨fun vs w => Go.Proofs.enters_of (P := Try.prog) Try.func15 (by kernel_rfl) rfl vs w, key_e1 ps b (by omega) hsp hb h1⟩)
      (And.intro (show decide (((ns.length : Nat) : Int) > 64) = true from decide_eq_true (by omega))
      (And.intro (show GivesE Try.prog 14 [.rz [.l (numC 4 ns)] ns.length] (.tp [.v (.string (ofL [])), .v (.int .i64 1)]) from ⟨fun vs w => Go.Proofs.enters_of (P := Try.prog) Try.func14 (by kernel_rfl) rfl vs w, pub_long ns hl⟩)
      (And.intro (show (20 : Int) = ((ps.length : Nat) : Int) ∧ ps.length ≤ p0.length ∧ flat [.l (ptsC ps)] = (flat [.l (ptsC p0)]).take (ps.length * 13) from cutP p0 ps ep hp0)
      (And.intro (show decide (((p0.length : Nat) : Int) ≤ 4096) = true from decide_eq_true (by omega))
      (And.intro (show decide (((p0.length : Nat) : Int) > 20) = true from decide_eq_true (by omega))
      (And.intro (show (100 : Int) = ((ns.length : Nat) : Int) ∧ ns.length ≤ n0.length ∧ flat [.l (numC 4 ns)] = (flat [.l (numC 4 n0)]).take (ns.length * 4) from cutN n0 ns en hn0)
      (And.intro (show decide (((n0.length : Nat) : Int) > 100) = true from decide_eq_true (by omega)) trivial))))))))))))))))))))))
theorem fr_BBa2 (ns : List Nat) (ps : List A1) (b : A2) (hbn : sm4 ns) (hsp : smP1 ps) (hb : sml2 b) (n0 : List Nat) (en : ns = n0.take 100) (hn0 : 100 < n0.length) (p0 : List A1) (ep : ps = p0.take 20) (hp0 : 20 < p0.length) (hp4 : p0.length ≤ 4096) (hl : 64 < ns.length) (h1 : ptE ps = 0) (h2 : p2E b ≠ 0) : Gives Try.prog 4 [.rz [.l (numC 4 n0)] n0.length, .ags [.z [.l (ptsC p0)] p0.length, .c (.n 6 b.1.1), .c (.n 6 b.1.2), .c (.n 6 b.2.1.1), .c (.n 6 b.2.1.2), .c (.c (.bool b.2.2))]] (.v (.bool true)) := by
  have hn : ns.length ≤ 100 := by rw [en, List.length_take]; omega
  have hp : ps.length ≤ 20 := by rw [ep, List.length_take]; omega
  exact fn_gives_at (P := Try.prog) (X := rulesY _) (env := [eFAlive, eLCnt, ePut2T]) ⟨eFAlive_ok, eLCnt_ok, ePut2T_ok, trivial⟩ Try.func4 1 (oL [(12, wT), (14, { ch := 0, hi := fun _ => ns.length, ex := 6, cs := fun _ => [.l (numC 4 ns)] }), (19, wT), (24, wT), (28, { ch := 0, hi := fun _ => ps.length, ex := 6, cs := fun _ => [.l (ptsC ps)] }), (32, { ch := 0, hi := fun _ => 0, ex := 7, av := fun _ => .tp [.v (.string (ofL [])), .v (.int .i64 1)] }), (41, wT), (49, { ch := 0, hi := fun _ => 0, ex := 7, av := fun _ => .tp [.v (.string (ofL [])), .v (.int .i64 (p2E b))] }), (58, wF), (61, { ch := 0, hi := fun _ => 0, ex := 7, av := fun _ => .tp [.v (.string (ofL (ptsB ps))), .v (.int .i64 0)] }), (69, wO 0), (86, rO 6 0), (88, { ch := 0, hi := fun _ => 0, ex := 7, av := fun _ => .v (.string (ofL (numB ns))) }), (89, rO 6 0), (100, wT), (111, rO 6 0), (113, rO 6 0), (115, rO 6 0), (120, wT), (123, wT), (126, wT)]) (by kernel_rfl) ⟨_, rfl⟩
    (And.intro (show ((ofL []).toList == (ofL []).toList) = true from by simp)
      (And.intro (show ((p2E b) == (p2E b)) = true from by simp)
      (And.intro (show ((p2E b) != 0) = true from by simpa using h2)
      (And.intro (show (ofL ((mgK ++ (b4 .i64 (ps.length : Nat))) ++ (ptsB ps))).size + (ofL (p2S b)).size ≤ 9223372036854775807 from by
        have h1 := sz_num ns
        have h2 := sz_pts ps
        have h3 := sz_p2 b
        simp only [sz_ap, sz_b4, sz_mgW, sz_mgK]
        omega)
      (And.intro (show (ofL (mgK ++ (b4 .i64 (ps.length : Nat)))).size + (ofL (ptsB ps)).size ≤ 9223372036854775807 from by
        have h1 := sz_num ns
        have h2 := sz_pts ps
        have h3 := sz_p2 b
        simp only [sz_ap, sz_b4, sz_mgW, sz_mgK]
        omega)
      (And.intro (show (ofL mgK).size + (ofL (b4 .i64 (ps.length : Nat))).size ≤ 9223372036854775807 from by
        have h1 := sz_num ns
        have h2 := sz_pts ps
        have h3 := sz_p2 b
        simp only [sz_ap, sz_b4, sz_mgW, sz_mgK]
        omega)
      (And.intro (show ((ofL []).toList == (ofL []).toList) = true from by simp)
      (And.intro (show (ofL (mgW ++ (b4 .i64 (ns.length : Nat)))).size + (ofL (numB ns)).size ≤ 9223372036854775807 from by
        have h1 := sz_num ns
        have h2 := sz_pts ps
        have h3 := sz_p2 b
        simp only [sz_ap, sz_b4, sz_mgW, sz_mgK]
        omega)
      (And.intro (show GivesE Try.prog 11 [.rz [.l (numC 4 ns)] ns.length] (.v (.string (ofL (numB ns)))) from ⟨fun vs w => Go.Proofs.enters_of (P := Try.prog) Try.func11 (by kernel_rfl) rfl vs w, lnum ns (by omega) hbn⟩)
      (And.intro (show (ofL mgW).size + (ofL (b4 .i64 (ns.length : Nat))).size ≤ 9223372036854775807 from by
        have h1 := sz_num ns
        have h2 := sz_pts ps
        have h3 := sz_p2 b
        simp only [sz_ap, sz_b4, sz_mgW, sz_mgK]
        omega)
      (And.intro (show sml2 b from hb)
      (And.intro (show GivesE Try.prog 16 [.rz [.l (ptsC ps)] ps.length] (.tp [.v (.string (ofL (ptsB ps))), .v (.int .i64 0)]) from ⟨fun vs w => Go.Proofs.enters_of (P := Try.prog) Try.func16 (by kernel_rfl) rfl vs w, pts_yes ps (by omega) hsp h1⟩)
      (And.intro (show decide (((ps.length : Nat) : Int) > 4096) = false from decide_eq_false (by omega))
      (And.intro (show GivesE Try.prog 15 [.ags [.z [.l (ptsC ps)] ps.length, .c (.n 6 b.1.1), .c (.n 6 b.1.2), .c (.n 6 b.2.1.1), .c (.n 6 b.2.1.2), .c (.c (.bool b.2.2))]] (.tp [.v (.string (ofL [])), .v (.int .i64 (p2E b))]) from ⟨fun vs w => Go.Proofs.enters_of (P := Try.prog) Try.func15 (by kernel_rfl) rfl vs w, key_e2 ps b (by omega) hsp hb h1 h2⟩)
      (And.intro (show decide (((ns.length : Nat) : Int) > 64) = true from decide_eq_true (by omega))
      (And.intro (show GivesE Try.prog 14 [.rz [.l (numC 4 ns)] ns.length] (.tp [.v (.string (ofL [])), .v (.int .i64 1)]) from ⟨fun vs w => Go.Proofs.enters_of (P := Try.prog) Try.func14 (by kernel_rfl) rfl vs w, pub_long ns hl⟩)
      (And.intro (show (20 : Int) = ((ps.length : Nat) : Int) ∧ ps.length ≤ p0.length ∧ flat [.l (ptsC ps)] = (flat [.l (ptsC p0)]).take (ps.length * 13) from cutP p0 ps ep hp0)
      (And.intro (show decide (((p0.length : Nat) : Int) ≤ 4096) = true from decide_eq_true (by omega))
      (And.intro (show decide (((p0.length : Nat) : Int) > 20) = true from decide_eq_true (by omega))
      (And.intro (show (100 : Int) = ((ns.length : Nat) : Int) ∧ ns.length ≤ n0.length ∧ flat [.l (numC 4 ns)] = (flat [.l (numC 4 n0)]).take (ns.length * 4) from cutN n0 ns en hn0)
      (And.intro (show decide (((n0.length : Nat) : Int) > 100) = true from decide_eq_true (by omega)) trivial)))))))))))))))))))))
theorem fr_BBb0 (ns : List Nat) (ps : List A1) (b : A2) (hbn : sm4 ns) (hsp : smP1 ps) (hb : sml2 b) (n0 : List Nat) (en : ns = n0.take 100) (hn0 : 100 < n0.length) (p0 : List A1) (ep : ps = p0.take 20) (hp0 : 20 < p0.length) (hp4 : p0.length ≤ 4096) (hl : ns.length ≤ 64) (hc : ¬ cleanN ns) (h1 : ptE ps = 0) (h2 : p2E b = 0) : Gives Try.prog 4 [.rz [.l (numC 4 n0)] n0.length, .ags [.z [.l (ptsC p0)] p0.length, .c (.n 6 b.1.1), .c (.n 6 b.1.2), .c (.n 6 b.2.1.1), .c (.n 6 b.2.1.2), .c (.c (.bool b.2.2))]] (.v (.bool true)) := by
  have hn : ns.length ≤ 100 := by rw [en, List.length_take]; omega
  have hp : ps.length ≤ 20 := by rw [ep, List.length_take]; omega
  exact fn_gives_at (P := Try.prog) (X := rulesY _) (env := [eFAlive, eLCnt, ePut2T]) ⟨eFAlive_ok, eLCnt_ok, ePut2T_ok, trivial⟩ Try.func4 1 (oL [(12, wT), (14, { ch := 0, hi := fun _ => ns.length, ex := 6, cs := fun _ => [.l (numC 4 ns)] }), (19, wT), (24, wT), (28, { ch := 0, hi := fun _ => ps.length, ex := 6, cs := fun _ => [.l (ptsC ps)] }), (32, { ch := 0, hi := fun _ => 0, ex := 7, av := fun _ => .tp [.v (.string (ofL [])), .v (.int .i64 1)] }), (41, wF), (44, { ch := 0, hi := fun _ => 0, ex := 7, av := fun _ => .v (.bool false) }), (49, { ch := 0, hi := fun _ => 0, ex := 7, av := fun _ => .tp [.v (.string (ofL (keyB ps ps.length ++ p2S b))), .v (.int .i64 0)] }), (58, wF), (61, { ch := 0, hi := fun _ => 0, ex := 7, av := fun _ => .tp [.v (.string (ofL (ptsB ps))), .v (.int .i64 0)] }), (69, wO 0), (86, rO 6 0), (88, { ch := 0, hi := fun _ => 0, ex := 7, av := fun _ => .v (.string (ofL (numB ns))) }), (89, rO 6 0), (100, wT), (111, rO 6 0), (113, rO 6 0), (115, rO 6 0), (120, wF), (126, wT)]) (by kernel_rfl) ⟨_, rfl⟩
    (And.intro (show ((ofL (keyB ps ps.length ++ p2S b)).toList == (ofL (((mgK ++ (b4 .i64 (ps.length : Nat))) ++ (ptsB ps)) ++ p2S b)).toList) = true from by unfold keyB; rw [List.take_length]; simp)
      (And.intro (show (p2E b != 0) = false from by rw [h2]; rfl)
      (And.intro (show (ofL ((mgK ++ (b4 .i64 (ps.length : Nat))) ++ (ptsB ps))).size + (ofL (p2S b)).size ≤ 9223372036854775807 from by
        have h1 := sz_num ns
        have h2 := sz_pts ps
        have h3 := sz_p2 b
        simp only [sz_ap, sz_b4, sz_mgW, sz_mgK]
        omega)
      (And.intro (show (ofL (mgK ++ (b4 .i64 (ps.length : Nat)))).size + (ofL (ptsB ps)).size ≤ 9223372036854775807 from by
        have h1 := sz_num ns
        have h2 := sz_pts ps
        have h3 := sz_p2 b
        simp only [sz_ap, sz_b4, sz_mgW, sz_mgK]
        omega)
      (And.intro (show (ofL mgK).size + (ofL (b4 .i64 (ps.length : Nat))).size ≤ 9223372036854775807 from by
        have h1 := sz_num ns
        have h2 := sz_pts ps
        have h3 := sz_p2 b
        simp only [sz_ap, sz_b4, sz_mgW, sz_mgK]
        omega)
      (And.intro (show ((ofL []).toList == (ofL []).toList) = true from by simp)
      (And.intro (show (ofL (mgW ++ (b4 .i64 (ns.length : Nat)))).size + (ofL (numB ns)).size ≤ 9223372036854775807 from by
        have h1 := sz_num ns
        have h2 := sz_pts ps
        have h3 := sz_p2 b
        simp only [sz_ap, sz_b4, sz_mgW, sz_mgK]
        omega)
      (And.intro (show GivesE Try.prog 11 [.rz [.l (numC 4 ns)] ns.length] (.v (.string (ofL (numB ns)))) from ⟨fun vs w => Go.Proofs.enters_of (P := Try.prog) Try.func11 (by kernel_rfl) rfl vs w, lnum ns (by omega) hbn⟩)
      (And.intro (show (ofL mgW).size + (ofL (b4 .i64 (ns.length : Nat))).size ≤ 9223372036854775807 from by
        have h1 := sz_num ns
        have h2 := sz_pts ps
        have h3 := sz_p2 b
        simp only [sz_ap, sz_b4, sz_mgW, sz_mgK]
        omega)
      (And.intro (show sml2 b from hb)
      (And.intro (show GivesE Try.prog 16 [.rz [.l (ptsC ps)] ps.length] (.tp [.v (.string (ofL (ptsB ps))), .v (.int .i64 0)]) from ⟨fun vs w => Go.Proofs.enters_of (P := Try.prog) Try.func16 (by kernel_rfl) rfl vs w, pts_yes ps (by omega) hsp h1⟩)
      (And.intro (show decide (((ps.length : Nat) : Int) > 4096) = false from decide_eq_false (by omega))
      (And.intro (show GivesE Try.prog 15 [.ags [.z [.l (ptsC ps)] ps.length, .c (.n 6 b.1.1), .c (.n 6 b.1.2), .c (.n 6 b.2.1.1), .c (.n 6 b.2.1.2), .c (.c (.bool b.2.2))]] (.tp [.v (.string (ofL (keyB ps ps.length ++ p2S b))), .v (.int .i64 0)]) from ⟨fun vs w => Go.Proofs.enters_of (P := Try.prog) Try.func15 (by kernel_rfl) rfl vs w, key_ok ps b (by omega) hsp hb h1 h2⟩)
      (And.intro (show GivesE Try.prog 10 [.rz [.l (numC 4 ns)] ns.length] (.v (.bool false)) from ⟨fun vs w => Go.Proofs.enters_of (P := Try.prog) Try.func10 (by kernel_rfl) rfl vs w, lclean_no ns (by omega) hbn hc⟩)
      (And.intro (show decide (((ns.length : Nat) : Int) > 64) = false from decide_eq_false (by omega))
      (And.intro (show GivesE Try.prog 14 [.rz [.l (numC 4 ns)] ns.length] (.tp [.v (.string (ofL [])), .v (.int .i64 1)]) from ⟨fun vs w => Go.Proofs.enters_of (P := Try.prog) Try.func14 (by kernel_rfl) rfl vs w, pub_un ns hl hbn hc⟩)
      (And.intro (show (20 : Int) = ((ps.length : Nat) : Int) ∧ ps.length ≤ p0.length ∧ flat [.l (ptsC ps)] = (flat [.l (ptsC p0)]).take (ps.length * 13) from cutP p0 ps ep hp0)
      (And.intro (show decide (((p0.length : Nat) : Int) ≤ 4096) = true from decide_eq_true (by omega))
      (And.intro (show decide (((p0.length : Nat) : Int) > 20) = true from decide_eq_true (by omega))
      (And.intro (show (100 : Int) = ((ns.length : Nat) : Int) ∧ ns.length ≤ n0.length ∧ flat [.l (numC 4 ns)] = (flat [.l (numC 4 n0)]).take (ns.length * 4) from cutN n0 ns en hn0)
      (And.intro (show decide (((n0.length : Nat) : Int) > 100) = true from decide_eq_true (by omega)) trivial)))))))))))))))))))))
theorem fr_BBb1 (ns : List Nat) (ps : List A1) (b : A2) (hbn : sm4 ns) (hsp : smP1 ps) (hb : sml2 b) (n0 : List Nat) (en : ns = n0.take 100) (hn0 : 100 < n0.length) (p0 : List A1) (ep : ps = p0.take 20) (hp0 : 20 < p0.length) (hp4 : p0.length ≤ 4096) (hl : ns.length ≤ 64) (hc : ¬ cleanN ns) (h1 : ptE ps ≠ 0) : Gives Try.prog 4 [.rz [.l (numC 4 n0)] n0.length, .ags [.z [.l (ptsC p0)] p0.length, .c (.n 6 b.1.1), .c (.n 6 b.1.2), .c (.n 6 b.2.1.1), .c (.n 6 b.2.1.2), .c (.c (.bool b.2.2))]] (.v (.bool true)) := by
  have hn : ns.length ≤ 100 := by rw [en, List.length_take]; omega
  have hp : ps.length ≤ 20 := by rw [ep, List.length_take]; omega
  exact fn_gives_at (P := Try.prog) (X := rulesY _) (env := [eFAlive, eLCnt, ePut2T]) ⟨eFAlive_ok, eLCnt_ok, ePut2T_ok, trivial⟩ Try.func4 1 (oL [(12, wT), (14, { ch := 0, hi := fun _ => ns.length, ex := 6, cs := fun _ => [.l (numC 4 ns)] }), (19, wT), (24, wT), (28, { ch := 0, hi := fun _ => ps.length, ex := 6, cs := fun _ => [.l (ptsC ps)] }), (32, { ch := 0, hi := fun _ => 0, ex := 7, av := fun _ => .tp [.v (.string (ofL [])), .v (.int .i64 1)] }), (41, wF), (44, { ch := 0, hi := fun _ => 0, ex := 7, av := fun _ => .v (.bool false) }), (49, { ch := 0, hi := fun _ => 0, ex := 7, av := fun _ => .tp [.v (.string (ofL [])), .v (.int .i64 (ptE ps))] }), (58, wF), (61, { ch := 0, hi := fun _ => 0, ex := 7, av := fun _ => .tp [.v (.string (ofL [])), .v (.int .i64 (ptE ps))] }), (69, wO 0), (76, wF), (84, rO 6 0), (86, { ch := 0, hi := fun _ => 0, ex := 7, av := fun _ => .v (.string (ofL (numB ns))) }), (87, rO 6 0), (98, wT), (109, rO 6 0), (111, rO 6 0), (113, rO 6 0), (118, wT), (121, wT), (124, wT)]) (by kernel_rfl) ⟨_, rfl⟩
    (And.intro (show ((ofL []).toList == (ofL []).toList) = true from by simp)
      (And.intro (show ((ptE ps) == (ptE ps)) = true from by simp)
      (And.intro (show ((ptE ps) != 0) = true from by simpa using h1)
      (And.intro (show (ofL ((mgK ++ (b4 .i64 (ps.length : Nat))) ++ [])).size + (ofL (p2S b)).size ≤ 9223372036854775807 from by
        have h3 := sz_p2 b
        have h4 : (ofL []).size = 0 := rfl
        simp only [sz_ap, sz_b4, sz_mgK, h4]
        omega)
      (And.intro (show (ofL (mgK ++ (b4 .i64 (ps.length : Nat)))).size + (ofL []).size ≤ 9223372036854775807 from by simp only [sz_ap, sz_b4, sz_mgK]; decide)
      (And.intro (show (ofL mgK).size + (ofL (b4 .i64 (ps.length : Nat))).size ≤ 9223372036854775807 from by
        have h1 := sz_num ns
        have h2 := sz_pts ps
        have h3 := sz_p2 b
        simp only [sz_ap, sz_b4, sz_mgW, sz_mgK]
        omega)
      (And.intro (show ((ofL []).toList == (ofL []).toList) = true from by simp)
      (And.intro (show (ofL (mgW ++ (b4 .i64 (ns.length : Nat)))).size + (ofL (numB ns)).size ≤ 9223372036854775807 from by
        have h1 := sz_num ns
        have h2 := sz_pts ps
        have h3 := sz_p2 b
        simp only [sz_ap, sz_b4, sz_mgW, sz_mgK]
        omega)
      (And.intro (show GivesE Try.prog 11 [.rz [.l (numC 4 ns)] ns.length] (.v (.string (ofL (numB ns)))) from ⟨fun vs w => Go.Proofs.enters_of (P := Try.prog) Try.func11 (by kernel_rfl) rfl vs w, lnum ns (by omega) hbn⟩)
      (And.intro (show (ofL mgW).size + (ofL (b4 .i64 (ns.length : Nat))).size ≤ 9223372036854775807 from by
        have h1 := sz_num ns
        have h2 := sz_pts ps
        have h3 := sz_p2 b
        simp only [sz_ap, sz_b4, sz_mgW, sz_mgK]
        omega)
      (And.intro (show (ptE ps == 0) = false from by simpa using h1)
      (And.intro (show sml2 b from hb)
      (And.intro (show GivesE Try.prog 16 [.rz [.l (ptsC ps)] ps.length] (.tp [.v (.string (ofL [])), .v (.int .i64 (ptE ps))]) from ⟨fun vs w => Go.Proofs.enters_of (P := Try.prog) Try.func16 (by kernel_rfl) rfl vs w, pts_no ps (by omega) hsp h1⟩)
      (And.intro (show decide (((ps.length : Nat) : Int) > 4096) = false from decide_eq_false (by omega))
      (And.intro (show GivesE Try.prog 15 [.ags [.z [.l (ptsC ps)] ps.length, .c (.n 6 b.1.1), .c (.n 6 b.1.2), .c (.n 6 b.2.1.1), .c (.n 6 b.2.1.2), .c (.c (.bool b.2.2))]] (.tp [.v (.string (ofL [])), .v (.int .i64 (ptE ps))]) from ⟨fun vs w => Go.Proofs.enters_of (P := Try.prog) Try.func15 (by kernel_rfl) rfl vs w, key_e1 ps b (by omega) hsp hb h1⟩)
      (And.intro (show GivesE Try.prog 10 [.rz [.l (numC 4 ns)] ns.length] (.v (.bool false)) from ⟨fun vs w => Go.Proofs.enters_of (P := Try.prog) Try.func10 (by kernel_rfl) rfl vs w, lclean_no ns (by omega) hbn hc⟩)
      (And.intro (show decide (((ns.length : Nat) : Int) > 64) = false from decide_eq_false (by omega))
      (And.intro (show GivesE Try.prog 14 [.rz [.l (numC 4 ns)] ns.length] (.tp [.v (.string (ofL [])), .v (.int .i64 1)]) from ⟨fun vs w => Go.Proofs.enters_of (P := Try.prog) Try.func14 (by kernel_rfl) rfl vs w, pub_un ns hl hbn hc⟩)
      (And.intro (show (20 : Int) = ((ps.length : Nat) : Int) ∧ ps.length ≤ p0.length ∧ flat [.l (ptsC ps)] = (flat [.l (ptsC p0)]).take (ps.length * 13) from cutP p0 ps ep hp0)
      (And.intro (show decide (((p0.length : Nat) : Int) ≤ 4096) = true from decide_eq_true (by omega))
      (And.intro (show decide (((p0.length : Nat) : Int) > 20) = true from decide_eq_true (by omega))
      (And.intro (show (100 : Int) = ((ns.length : Nat) : Int) ∧ ns.length ≤ n0.length ∧ flat [.l (numC 4 ns)] = (flat [.l (numC 4 n0)]).take (ns.length * 4) from cutN n0 ns en hn0)
      (And.intro (show decide (((n0.length : Nat) : Int) > 100) = true from decide_eq_true (by omega)) trivial)))))))))))))))))))))))
theorem fr_BBb2 (ns : List Nat) (ps : List A1) (b : A2) (hbn : sm4 ns) (hsp : smP1 ps) (hb : sml2 b) (n0 : List Nat) (en : ns = n0.take 100) (hn0 : 100 < n0.length) (p0 : List A1) (ep : ps = p0.take 20) (hp0 : 20 < p0.length) (hp4 : p0.length ≤ 4096) (hl : ns.length ≤ 64) (hc : ¬ cleanN ns) (h1 : ptE ps = 0) (h2 : p2E b ≠ 0) : Gives Try.prog 4 [.rz [.l (numC 4 n0)] n0.length, .ags [.z [.l (ptsC p0)] p0.length, .c (.n 6 b.1.1), .c (.n 6 b.1.2), .c (.n 6 b.2.1.1), .c (.n 6 b.2.1.2), .c (.c (.bool b.2.2))]] (.v (.bool true)) := by
  have hn : ns.length ≤ 100 := by rw [en, List.length_take]; omega
  have hp : ps.length ≤ 20 := by rw [ep, List.length_take]; omega
  exact fn_gives_at (P := Try.prog) (X := rulesY _) (env := [eFAlive, eLCnt, ePut2T]) ⟨eFAlive_ok, eLCnt_ok, ePut2T_ok, trivial⟩ Try.func4 1 (oL [(12, wT), (14, { ch := 0, hi := fun _ => ns.length, ex := 6, cs := fun _ => [.l (numC 4 ns)] }), (19, wT), (24, wT), (28, { ch := 0, hi := fun _ => ps.length, ex := 6, cs := fun _ => [.l (ptsC ps)] }), (32, { ch := 0, hi := fun _ => 0, ex := 7, av := fun _ => .tp [.v (.string (ofL [])), .v (.int .i64 1)] }), (41, wF), (44, { ch := 0, hi := fun _ => 0, ex := 7, av := fun _ => .v (.bool false) }), (49, { ch := 0, hi := fun _ => 0, ex := 7, av := fun _ => .tp [.v (.string (ofL [])), .v (.int .i64 (p2E b))] }), (58, wF), (61, { ch := 0, hi := fun _ => 0, ex := 7, av := fun _ => .tp [.v (.string (ofL (ptsB ps))), .v (.int .i64 0)] }), (69, wO 0), (86, rO 6 0), (88, { ch := 0, hi := fun _ => 0, ex := 7, av := fun _ => .v (.string (ofL (numB ns))) }), (89, rO 6 0), (100, wT), (111, rO 6 0), (113, rO 6 0), (115, rO 6 0), (120, wT), (123, wT), (126, wT)]) (by kernel_rfl) ⟨_, rfl⟩
    (And.intro (show ((ofL []).toList == (ofL []).toList) = true from by simp)
      (And.intro (show ((p2E b) == (p2E b)) = true from by simp)
      (And.intro (show ((p2E b) != 0) = true from by simpa using h2)
      (And.intro (show (ofL ((mgK ++ (b4 .i64 (ps.length : Nat))) ++ (ptsB ps))).size + (ofL (p2S b)).size ≤ 9223372036854775807 from by
        have h1 := sz_num ns
        have h2 := sz_pts ps
        have h3 := sz_p2 b
        simp only [sz_ap, sz_b4, sz_mgW, sz_mgK]
        omega)
      (And.intro (show (ofL (mgK ++ (b4 .i64 (ps.length : Nat)))).size + (ofL (ptsB ps)).size ≤ 9223372036854775807 from by
        have h1 := sz_num ns
        have h2 := sz_pts ps
        have h3 := sz_p2 b
        simp only [sz_ap, sz_b4, sz_mgW, sz_mgK]
        omega)
      (And.intro (show (ofL mgK).size + (ofL (b4 .i64 (ps.length : Nat))).size ≤ 9223372036854775807 from by
        have h1 := sz_num ns
        have h2 := sz_pts ps
        have h3 := sz_p2 b
        simp only [sz_ap, sz_b4, sz_mgW, sz_mgK]
        omega)
      (And.intro (show ((ofL []).toList == (ofL []).toList) = true from by simp)
      (And.intro (show (ofL (mgW ++ (b4 .i64 (ns.length : Nat)))).size + (ofL (numB ns)).size ≤ 9223372036854775807 from by
        have h1 := sz_num ns
        have h2 := sz_pts ps
        have h3 := sz_p2 b
        simp only [sz_ap, sz_b4, sz_mgW, sz_mgK]
        omega)
      (And.intro (show GivesE Try.prog 11 [.rz [.l (numC 4 ns)] ns.length] (.v (.string (ofL (numB ns)))) from ⟨fun vs w => Go.Proofs.enters_of (P := Try.prog) Try.func11 (by kernel_rfl) rfl vs w, lnum ns (by omega) hbn⟩)
      (And.intro (show (ofL mgW).size + (ofL (b4 .i64 (ns.length : Nat))).size ≤ 9223372036854775807 from by
        have h1 := sz_num ns
        have h2 := sz_pts ps
        have h3 := sz_p2 b
        simp only [sz_ap, sz_b4, sz_mgW, sz_mgK]
        omega)
      (And.intro (show sml2 b from hb)
      (And.intro (show GivesE Try.prog 16 [.rz [.l (ptsC ps)] ps.length] (.tp [.v (.string (ofL (ptsB ps))), .v (.int .i64 0)]) from ⟨fun vs w => Go.Proofs.enters_of (P := Try.prog) Try.func16 (by kernel_rfl) rfl vs w, pts_yes ps (by omega) hsp h1⟩)
      (And.intro (show decide (((ps.length : Nat) : Int) > 4096) = false from decide_eq_false (by omega))
      (And.intro (show GivesE Try.prog 15 [.ags [.z [.l (ptsC ps)] ps.length, .c (.n 6 b.1.1), .c (.n 6 b.1.2), .c (.n 6 b.2.1.1), .c (.n 6 b.2.1.2), .c (.c (.bool b.2.2))]] (.tp [.v (.string (ofL [])), .v (.int .i64 (p2E b))]) from ⟨fun vs w => Go.Proofs.enters_of (P := Try.prog) Try.func15 (by kernel_rfl) rfl vs w, key_e2 ps b (by omega) hsp hb h1 h2⟩)
      (And.intro (show GivesE Try.prog 10 [.rz [.l (numC 4 ns)] ns.length] (.v (.bool false)) from ⟨fun vs w => Go.Proofs.enters_of (P := Try.prog) Try.func10 (by kernel_rfl) rfl vs w, lclean_no ns (by omega) hbn hc⟩)
      (And.intro (show decide (((ns.length : Nat) : Int) > 64) = false from decide_eq_false (by omega))
      (And.intro (show GivesE Try.prog 14 [.rz [.l (numC 4 ns)] ns.length] (.tp [.v (.string (ofL [])), .v (.int .i64 1)]) from ⟨fun vs w => Go.Proofs.enters_of (P := Try.prog) Try.func14 (by kernel_rfl) rfl vs w, pub_un ns hl hbn hc⟩)
      (And.intro (show (20 : Int) = ((ps.length : Nat) : Int) ∧ ps.length ≤ p0.length ∧ flat [.l (ptsC ps)] = (flat [.l (ptsC p0)]).take (ps.length * 13) from cutP p0 ps ep hp0)
      (And.intro (show decide (((p0.length : Nat) : Int) ≤ 4096) = true from decide_eq_true (by omega))
      (And.intro (show decide (((p0.length : Nat) : Int) > 20) = true from decide_eq_true (by omega))
      (And.intro (show (100 : Int) = ((ns.length : Nat) : Int) ∧ ns.length ≤ n0.length ∧ flat [.l (numC 4 ns)] = (flat [.l (numC 4 n0)]).take (ns.length * 4) from cutN n0 ns en hn0)
      (And.intro (show decide (((n0.length : Nat) : Int) > 100) = true from decide_eq_true (by omega)) trivial))))))))))))))))))))))
theorem fr_BBc0 (ns : List Nat) (ps : List A1) (b : A2) (hbn : sm4 ns) (hsp : smP1 ps) (hb : sml2 b) (n0 : List Nat) (en : ns = n0.take 100) (hn0 : 100 < n0.length) (p0 : List A1) (ep : ps = p0.take 20) (hp0 : 20 < p0.length) (hp4 : p0.length ≤ 4096) (hl : ns.length ≤ 64) (hc : cleanN ns) (h1 : ptE ps = 0) (h2 : p2E b = 0) : Gives Try.prog 4 [.rz [.l (numC 4 n0)] n0.length, .ags [.z [.l (ptsC p0)] p0.length, .c (.n 6 b.1.1), .c (.n 6 b.1.2), .c (.n 6 b.2.1.1), .c (.n 6 b.2.1.2), .c (.c (.bool b.2.2))]] (.v (.bool true)) := by
  have hn : ns.length ≤ 100 := by rw [en, List.length_take]; omega
  have hp : ps.length ≤ 20 := by rw [ep, List.length_take]; omega
  exact fn_gives_at (P := Try.prog) (X := rulesY _) (env := [eFAlive, eLCnt, ePut2T]) ⟨eFAlive_ok, eLCnt_ok, ePut2T_ok, trivial⟩ Try.func4 1 (oL [(12, wT), (14, { ch := 0, hi := fun _ => ns.length, ex := 6, cs := fun _ => [.l (numC 4 ns)] }), (19, wT), (24, wT), (28, { ch := 0, hi := fun _ => ps.length, ex := 6, cs := fun _ => [.l (ptsC ps)] }), (32, { ch := 0, hi := fun _ => 0, ex := 7, av := fun _ => .tp [.v (.string (ofL (pubB ns ns.length))), .v (.int .i64 0)] }), (41, wF), (44, { ch := 0, hi := fun _ => 0, ex := 7, av := fun _ => .v (.bool true) }), (48, { ch := 0, hi := fun _ => 0, ex := 7, av := fun _ => .tp [.v (.string (ofL (keyB ps ps.length ++ p2S b))), .v (.int .i64 0)] }), (57, wF), (60, { ch := 0, hi := fun _ => 0, ex := 7, av := fun _ => .tp [.v (.string (ofL (ptsB ps))), .v (.int .i64 0)] }), (68, wO 0), (85, rO 6 0), (87, { ch := 0, hi := fun _ => 0, ex := 7, av := fun _ => .v (.string (ofL (numB ns))) }), (88, rO 6 0), (99, wT), (110, rO 6 0), (112, rO 6 0), (114, rO 6 0), (119, wF), (125, wT)]) (by kernel_rfl) ⟨_, rfl⟩
    (And.intro (show ((ofL (keyB ps ps.length ++ p2S b)).toList == (ofL (((mgK ++ (b4 .i64 (ps.length : Nat))) ++ (ptsB ps)) ++ p2S b)).toList) = true from by unfold keyB; rw [List.take_length]; simp)
      (And.intro (show (p2E b != 0) = false from by rw [h2]; rfl)
      (And.intro (show (ofL ((mgK ++ (b4 .i64 (ps.length : Nat))) ++ (ptsB ps))).size + (ofL (p2S b)).size ≤ 9223372036854775807 from by
        have h1 := sz_num ns
        have h2 := sz_pts ps
        have h3 := sz_p2 b
        simp only [sz_ap, sz_b4, sz_mgW, sz_mgK]
        omega)
      (And.intro (show (ofL (mgK ++ (b4 .i64 (ps.length : Nat)))).size + (ofL (ptsB ps)).size ≤ 9223372036854775807 from by
        have h1 := sz_num ns
        have h2 := sz_pts ps
        have h3 := sz_p2 b
        simp only [sz_ap, sz_b4, sz_mgW, sz_mgK]
        omega)
      (And.intro (show (ofL mgK).size + (ofL (b4 .i64 (ps.length : Nat))).size ≤ 9223372036854775807 from by
        have h1 := sz_num ns
        have h2 := sz_pts ps
        have h3 := sz_p2 b
        simp only [sz_ap, sz_b4, sz_mgW, sz_mgK]
        omega)
      (And.intro (show ((ofL (pubB ns ns.length)).toList == (ofL ((mgW ++ (b4 .i64 (ns.length : Nat))) ++ numB ns)).toList) = true from by unfold pubB; rw [List.take_length]; simp)
      (And.intro (show (ofL (mgW ++ (b4 .i64 (ns.length : Nat)))).size + (ofL (numB ns)).size ≤ 9223372036854775807 from by
        have h1 := sz_num ns
        have h2 := sz_pts ps
        have h3 := sz_p2 b
        simp only [sz_ap, sz_b4, sz_mgW, sz_mgK]
        omega)
      (And.intro (show GivesE Try.prog 11 [.rz [.l (numC 4 ns)] ns.length] (.v (.string (ofL (numB ns)))) from ⟨fun vs w => Go.Proofs.enters_of (P := Try.prog) Try.func11 (by kernel_rfl) rfl vs w, lnum ns (by omega) hbn⟩)
      (And.intro (show (ofL mgW).size + (ofL (b4 .i64 (ns.length : Nat))).size ≤ 9223372036854775807 from by
        have h1 := sz_num ns
        have h2 := sz_pts ps
        have h3 := sz_p2 b
        simp only [sz_ap, sz_b4, sz_mgW, sz_mgK]
        omega)
      (And.intro (show sml2 b from hb)
      (And.intro (show GivesE Try.prog 16 [.rz [.l (ptsC ps)] ps.length] (.tp [.v (.string (ofL (ptsB ps))), .v (.int .i64 0)]) from ⟨fun vs w => Go.Proofs.enters_of (P := Try.prog) Try.func16 (by kernel_rfl) rfl vs w, pts_yes ps (by omega) hsp h1⟩)
      (And.intro (show decide (((ps.length : Nat) : Int) > 4096) = false from decide_eq_false (by omega))
      (And.intro (show GivesE Try.prog 15 [.ags [.z [.l (ptsC ps)] ps.length, .c (.n 6 b.1.1), .c (.n 6 b.1.2), .c (.n 6 b.2.1.1), .c (.n 6 b.2.1.2), .c (.c (.bool b.2.2))]] (.tp [.v (.string (ofL (keyB ps ps.length ++ p2S b))), .v (.int .i64 0)]) from ⟨fun vs w => Go.Proofs.enters_of (P := Try.prog) Try.func15 (by kernel_rfl) rfl vs w, key_ok ps b (by omega) hsp hb h1 h2⟩)
      (And.intro (show GivesE Try.prog 10 [.rz [.l (numC 4 ns)] ns.length] (.v (.bool true)) from ⟨fun vs w => Go.Proofs.enters_of (P := Try.prog) Try.func10 (by kernel_rfl) rfl vs w, lclean_yes ns (by omega) hbn hc⟩)
      (And.intro (show decide (((ns.length : Nat) : Int) > 64) = false from decide_eq_false (by omega))
      (And.intro (show GivesE Try.prog 14 [.rz [.l (numC 4 ns)] ns.length] (.tp [.v (.string (ofL (pubB ns ns.length))), .v (.int .i64 0)]) from ⟨fun vs w => Go.Proofs.enters_of (P := Try.prog) Try.func14 (by kernel_rfl) rfl vs w, pub_ok ns hl hbn hc⟩)
      (And.intro (show (20 : Int) = ((ps.length : Nat) : Int) ∧ ps.length ≤ p0.length ∧ flat [.l (ptsC ps)] = (flat [.l (ptsC p0)]).take (ps.length * 13) from cutP p0 ps ep hp0)
      (And.intro (show decide (((p0.length : Nat) : Int) ≤ 4096) = true from decide_eq_true (by omega))
      (And.intro (show decide (((p0.length : Nat) : Int) > 20) = true from decide_eq_true (by omega))
      (And.intro (show (100 : Int) = ((ns.length : Nat) : Int) ∧ ns.length ≤ n0.length ∧ flat [.l (numC 4 ns)] = (flat [.l (numC 4 n0)]).take (ns.length * 4) from cutN n0 ns en hn0)
      (And.intro (show decide (((n0.length : Nat) : Int) > 100) = true from decide_eq_true (by omega)) trivial)))))))))))))))))))))
theorem fr_BBc1 (ns : List Nat) (ps : List A1) (b : A2) (hbn : sm4 ns) (hsp : smP1 ps) (hb : sml2 b) (n0 : List Nat) (en : ns = n0.take 100) (hn0 : 100 < n0.length) (p0 : List A1) (ep : ps = p0.take 20) (hp0 : 20 < p0.length) (hp4 : p0.length ≤ 4096) (hl : ns.length ≤ 64) (hc : cleanN ns) (h1 : ptE ps ≠ 0) : Gives Try.prog 4 [.rz [.l (numC 4 n0)] n0.length, .ags [.z [.l (ptsC p0)] p0.length, .c (.n 6 b.1.1), .c (.n 6 b.1.2), .c (.n 6 b.2.1.1), .c (.n 6 b.2.1.2), .c (.c (.bool b.2.2))]] (.v (.bool true)) := by
  have hn : ns.length ≤ 100 := by rw [en, List.length_take]; omega
  have hp : ps.length ≤ 20 := by rw [ep, List.length_take]; omega
  exact fn_gives_at (P := Try.prog) (X := rulesY _) (env := [eFAlive, eLCnt, ePut2T]) ⟨eFAlive_ok, eLCnt_ok, ePut2T_ok, trivial⟩ Try.func4 1 (oL [(12, wT), (14, { ch := 0, hi := fun _ => ns.length, ex := 6, cs := fun _ => [.l (numC 4 ns)] }), (19, wT), (24, wT), (28, { ch := 0, hi := fun _ => ps.length, ex := 6, cs := fun _ => [.l (ptsC ps)] }), (32, { ch := 0, hi := fun _ => 0, ex := 7, av := fun _ => .tp [.v (.string (ofL (pubB ns ns.length))), .v (.int .i64 0)] }), (41, wF), (44, { ch := 0, hi := fun _ => 0, ex := 7, av := fun _ => .v (.bool true) }), (48, { ch := 0, hi := fun _ => 0, ex := 7, av := fun _ => .tp [.v (.string (ofL [])), .v (.int .i64 (ptE ps))] }), (57, wF), (60, { ch := 0, hi := fun _ => 0, ex := 7, av := fun _ => .tp [.v (.string (ofL [])), .v (.int .i64 (ptE ps))] }), (68, wO 0), (75, wF), (83, rO 6 0), (85, { ch := 0, hi := fun _ => 0, ex := 7, av := fun _ => .v (.string (ofL (numB ns))) }), (86, rO 6 0), (97, wT), (108, rO 6 0), (110, rO 6 0), (112, rO 6 0), (117, wT), (120, wT), (123, wT)]) (by kernel_rfl) ⟨_, rfl⟩
    (And.intro (show ((ofL []).toList == (ofL []).toList) = true from by simp)
      (And.intro (show ((ptE ps) == (ptE ps)) = true from by simp)
      (And.intro (show ((ptE ps) != 0) = true from by simpa using h1)
      (And.intro (show (ofL ((mgK ++ (b4 .i64 (ps.length : Nat))) ++ [])).size + (ofL (p2S b)).size ≤ 9223372036854775807 from by
        have h3 := sz_p2 b
        have h4 : (ofL []).size = 0 := rfl
        simp only [sz_ap, sz_b4, sz_mgK, h4]
        omega)
      (And.intro (show (ofL (mgK ++ (b4 .i64 (ps.length : Nat)))).size + (ofL []).size ≤ 9223372036854775807 from by simp only [sz_ap, sz_b4, sz_mgK]; decide)
      (And.intro (show (ofL mgK).size + (ofL (b4 .i64 (ps.length : Nat))).size ≤ 9223372036854775807 from by
        have h1 := sz_num ns
        have h2 := sz_pts ps
        have h3 := sz_p2 b
        simp only [sz_ap, sz_b4, sz_mgW, sz_mgK]
        omega)
      (And.intro (show ((ofL (pubB ns ns.length)).toList == (ofL ((mgW ++ (b4 .i64 (ns.length : Nat))) ++ numB ns)).toList) = true from by unfold pubB; rw [List.take_length]; simp)
      (And.intro (show (ofL (mgW ++ (b4 .i64 (ns.length : Nat)))).size + (ofL (numB ns)).size ≤ 9223372036854775807 from by
        have h1 := sz_num ns
        have h2 := sz_pts ps
        have h3 := sz_p2 b
        simp only [sz_ap, sz_b4, sz_mgW, sz_mgK]
        omega)
      (And.intro (show GivesE Try.prog 11 [.rz [.l (numC 4 ns)] ns.length] (.v (.string (ofL (numB ns)))) from ⟨fun vs w => Go.Proofs.enters_of (P := Try.prog) Try.func11 (by kernel_rfl) rfl vs w, lnum ns (by omega) hbn⟩)
      (And.intro (show (ofL mgW).size + (ofL (b4 .i64 (ns.length : Nat))).size ≤ 9223372036854775807 from by
        have h1 := sz_num ns
        have h2 := sz_pts ps
        have h3 := sz_p2 b
        simp only [sz_ap, sz_b4, sz_mgW, sz_mgK]
        omega)
      (And.intro (show (ptE ps == 0) = false from by simpa using h1)
      (And.intro (show sml2 b from hb)
      (And.intro (show GivesE Try.prog 16 [.rz [.l (ptsC ps)] ps.length] (.tp [.v (.string (ofL [])), .v (.int .i64 (ptE ps))]) from ⟨fun vs w => Go.Proofs.enters_of (P := Try.prog) Try.func16 (by kernel_rfl) rfl vs w, pts_no ps (by omega) hsp h1⟩)
      (And.intro (show decide (((ps.length : Nat) : Int) > 4096) = false from decide_eq_false (by omega))
      (And.intro (show GivesE Try.prog 15 [.ags [.z [.l (ptsC ps)] ps.length, .c (.n 6 b.1.1), .c (.n 6 b.1.2), .c (.n 6 b.2.1.1), .c (.n 6 b.2.1.2), .c (.c (.bool b.2.2))]] (.tp [.v (.string (ofL [])), .v (.int .i64 (ptE ps))]) from ⟨fun vs w => Go.Proofs.enters_of (P := Try.prog) Try.func15 (by kernel_rfl) rfl vs w, key_e1 ps b (by omega) hsp hb h1⟩)
      (And.intro (show GivesE Try.prog 10 [.rz [.l (numC 4 ns)] ns.length] (.v (.bool true)) from ⟨fun vs w => Go.Proofs.enters_of (P := Try.prog) Try.func10 (by kernel_rfl) rfl vs w, lclean_yes ns (by omega) hbn hc⟩)
      (And.intro (show decide (((ns.length : Nat) : Int) > 64) = false from decide_eq_false (by omega))
      (And.intro (show GivesE Try.prog 14 [.rz [.l (numC 4 ns)] ns.length] (.tp [.v (.string (ofL (pubB ns ns.length))), .v (.int .i64 0)]) from ⟨fun vs w => Go.Proofs.enters_of (P := Try.prog) Try.func14 (by kernel_rfl) rfl vs w, pub_ok ns hl hbn hc⟩)
      (And.intro (show (20 : Int) = ((ps.length : Nat) : Int) ∧ ps.length ≤ p0.length ∧ flat [.l (ptsC ps)] = (flat [.l (ptsC p0)]).take (ps.length * 13) from cutP p0 ps ep hp0)
      (And.intro (show decide (((p0.length : Nat) : Int) ≤ 4096) = true from decide_eq_true (by omega))
      (And.intro (show decide (((p0.length : Nat) : Int) > 20) = true from decide_eq_true (by omega))
      (And.intro (show (100 : Int) = ((ns.length : Nat) : Int) ∧ ns.length ≤ n0.length ∧ flat [.l (numC 4 ns)] = (flat [.l (numC 4 n0)]).take (ns.length * 4) from cutN n0 ns en hn0)
      (And.intro (show decide (((n0.length : Nat) : Int) > 100) = true from decide_eq_true (by omega)) trivial)))))))))))))))))))))))
theorem fr_BBc2 (ns : List Nat) (ps : List A1) (b : A2) (hbn : sm4 ns) (hsp : smP1 ps) (hb : sml2 b) (n0 : List Nat) (en : ns = n0.take 100) (hn0 : 100 < n0.length) (p0 : List A1) (ep : ps = p0.take 20) (hp0 : 20 < p0.length) (hp4 : p0.length ≤ 4096) (hl : ns.length ≤ 64) (hc : cleanN ns) (h1 : ptE ps = 0) (h2 : p2E b ≠ 0) : Gives Try.prog 4 [.rz [.l (numC 4 n0)] n0.length, .ags [.z [.l (ptsC p0)] p0.length, .c (.n 6 b.1.1), .c (.n 6 b.1.2), .c (.n 6 b.2.1.1), .c (.n 6 b.2.1.2), .c (.c (.bool b.2.2))]] (.v (.bool true)) := by
  have hn : ns.length ≤ 100 := by rw [en, List.length_take]; omega
  have hp : ps.length ≤ 20 := by rw [ep, List.length_take]; omega
  exact fn_gives_at (P := Try.prog) (X := rulesY _) (env := [eFAlive, eLCnt, ePut2T]) ⟨eFAlive_ok, eLCnt_ok, ePut2T_ok, trivial⟩ Try.func4 1 (oL [(12, wT), (14, { ch := 0, hi := fun _ => ns.length, ex := 6, cs := fun _ => [.l (numC 4 ns)] }), (19, wT), (24, wT), (28, { ch := 0, hi := fun _ => ps.length, ex := 6, cs := fun _ => [.l (ptsC ps)] }), (32, { ch := 0, hi := fun _ => 0, ex := 7, av := fun _ => .tp [.v (.string (ofL (pubB ns ns.length))), .v (.int .i64 0)] }), (41, wF), (44, { ch := 0, hi := fun _ => 0, ex := 7, av := fun _ => .v (.bool true) }), (48, { ch := 0, hi := fun _ => 0, ex := 7, av := fun _ => .tp [.v (.string (ofL [])), .v (.int .i64 (p2E b))] }), (57, wF), (60, { ch := 0, hi := fun _ => 0, ex := 7, av := fun _ => .tp [.v (.string (ofL (ptsB ps))), .v (.int .i64 0)] }), (68, wO 0), (85, rO 6 0), (87, { ch := 0, hi := fun _ => 0, ex := 7, av := fun _ => .v (.string (ofL (numB ns))) }), (88, rO 6 0), (99, wT), (110, rO 6 0), (112, rO 6 0), (114, rO 6 0), (119, wT), (122, wT), (125, wT)]) (by kernel_rfl) ⟨_, rfl⟩
    (And.intro (show ((ofL []).toList == (ofL []).toList) = true from by simp)
      (And.intro (show ((p2E b) == (p2E b)) = true from by simp)
      (And.intro (show ((p2E b) != 0) = true from by simpa using h2)
      (And.intro (show (ofL ((mgK ++ (b4 .i64 (ps.length : Nat))) ++ (ptsB ps))).size + (ofL (p2S b)).size ≤ 9223372036854775807 from by
        have h1 := sz_num ns
        have h2 := sz_pts ps
        have h3 := sz_p2 b
        simp only [sz_ap, sz_b4, sz_mgW, sz_mgK]
        omega)
      (And.intro (show (ofL (mgK ++ (b4 .i64 (ps.length : Nat)))).size + (ofL (ptsB ps)).size ≤ 9223372036854775807 from by
        have h1 := sz_num ns
        have h2 := sz_pts ps
        have h3 := sz_p2 b
        simp only [sz_ap, sz_b4, sz_mgW, sz_mgK]
        omega)
      (And.intro (show (ofL mgK).size + (ofL (b4 .i64 (ps.length : Nat))).size ≤ 9223372036854775807 from by
        have h1 := sz_num ns
        have h2 := sz_pts ps
        have h3 := sz_p2 b
        simp only [sz_ap, sz_b4, sz_mgW, sz_mgK]
        omega)
      (And.intro (show ((ofL (pubB ns ns.length)).toList == (ofL ((mgW ++ (b4 .i64 (ns.length : Nat))) ++ numB ns)).toList) = true from by unfold pubB; rw [List.take_length]; simp)
      (And.intro (show (ofL (mgW ++ (b4 .i64 (ns.length : Nat)))).size + (ofL (numB ns)).size ≤ 9223372036854775807 from by
        have h1 := sz_num ns
        have h2 := sz_pts ps
        have h3 := sz_p2 b
        simp only [sz_ap, sz_b4, sz_mgW, sz_mgK]
        omega)
      (And.intro (show GivesE Try.prog 11 [.rz [.l (numC 4 ns)] ns.length] (.v (.string (ofL (numB ns)))) from ⟨fun vs w => Go.Proofs.enters_of (P := Try.prog) Try.func11 (by kernel_rfl) rfl vs w, lnum ns (by omega) hbn⟩)
      (And.intro (show (ofL mgW).size + (ofL (b4 .i64 (ns.length : Nat))).size ≤ 9223372036854775807 from by
        have h1 := sz_num ns
        have h2 := sz_pts ps
        have h3 := sz_p2 b
        simp only [sz_ap, sz_b4, sz_mgW, sz_mgK]
        omega)
      (And.intro (show sml2 b from hb)
      (And.intro (show GivesE Try.prog 16 [.rz [.l (ptsC ps)] ps.length] (.tp [.v (.string (ofL (ptsB ps))), .v (.int .i64 0)]) from ⟨fun vs w => Go.Proofs.enters_of (P := Try.prog) Try.func16 (by kernel_rfl) rfl vs w, pts_yes ps (by omega) hsp h1⟩)
      (And.intro (show decide (((ps.length : Nat) : Int) > 4096) = false from decide_eq_false (by omega))
      (And.intro (show GivesE Try.prog 15 [.ags [.z [.l (ptsC ps)] ps.length, .c (.n 6 b.1.1), .c (.n 6 b.1.2), .c (.n 6 b.2.1.1), .c (.n 6 b.2.1.2), .c (.c (.bool b.2.2))]] (.tp [.v (.string (ofL [])), .v (.int .i64 (p2E b))]) from ⟨fun vs w => Go.Proofs.enters_of (P := Try.prog) Try.func15 (by kernel_rfl) rfl vs w, key_e2 ps b (by omega) hsp hb h1 h2⟩)
      (And.intro (show GivesE Try.prog 10 [.rz [.l (numC 4 ns)] ns.length] (.v (.bool true)) from ⟨fun vs w => Go.Proofs.enters_of (P := Try.prog) Try.func10 (by kernel_rfl) rfl vs w, lclean_yes ns (by omega) hbn hc⟩)
      (And.intro (show decide (((ns.length : Nat) : Int) > 64) = false from decide_eq_false (by omega))
      (And.intro (show GivesE Try.prog 14 [.rz [.l (numC 4 ns)] ns.length] (.tp [.v (.string (ofL (pubB ns ns.length))), .v (.int .i64 0)]) from ⟨fun vs w => Go.Proofs.enters_of (P := Try.prog) Try.func14 (by kernel_rfl) rfl vs w, pub_ok ns hl hbn hc⟩)
      (And.intro (show (20 : Int) = ((ps.length : Nat) : Int) ∧ ps.length ≤ p0.length ∧ flat [.l (ptsC ps)] = (flat [.l (ptsC p0)]).take (ps.length * 13) from cutP p0 ps ep hp0)
      (And.intro (show decide (((p0.length : Nat) : Int) ≤ 4096) = true from decide_eq_true (by omega))
      (And.intro (show decide (((p0.length : Nat) : Int) > 20) = true from decide_eq_true (by omega))
      (And.intro (show (100 : Int) = ((ns.length : Nat) : Int) ∧ ns.length ≤ n0.length ∧ flat [.l (numC 4 ns)] = (flat [.l (numC 4 n0)]).take (ns.length * 4) from cutN n0 ns en hn0)
      (And.intro (show decide (((n0.length : Nat) : Int) > 100) = true from decide_eq_true (by omega)) trivial))))))))))))))))))))))
theorem fr_BCaC (ns : List Nat) (ps : List A1) (b : A2) (hbn : sm4 ns) (hsp : smP1 ps) (hb : sml2 b) (n0 : List Nat) (en : ns = n0.take 100) (hn0 : 100 < n0.length) (hp : 4096 < ps.length) (hl : 64 < ns.length) : Gives Try.prog 4 [.rz [.l (numC 4 n0)] n0.length, .ags [.z [.l (ptsC ps)] ps.length, .c (.n 6 b.1.1), .c (.n 6 b.1.2), .c (.n 6 b.2.1.1), .c (.n 6 b.2.1.2), .c (.c (.bool b.2.2))]] (.v (.bool true)) := by
  have hn : ns.length ≤ 100 := by rw [en, List.length_take]; omega
  exact fn_gives_at (P := Try.prog) (X := rulesY _) (env := [eFAlive, eLCnt, ePut2T]) ⟨eFAlive_ok, eLCnt_ok, ePut2T_ok, trivial⟩ Try.func4 1 (oL [(12, wT), (14, { ch := 0, hi := fun _ => ns.length, ex := 6, cs := fun _ => [.l (numC 4 ns)] }), (19, wT), (24, wF), (27, { ch := 0, hi := fun _ => 0, ex := 7, av := fun _ => .tp [.v (.string (ofL [])), .v (.int .i64 1)] }), (36, wT), (44, { ch := 0, hi := fun _ => 0, ex := 7, av := fun _ => .tp [.v (.string (ofL [])), .v (.int .i64 1)] }), (53, wT), (61, rO 6 0), (63, { ch := 0, hi := fun _ => 0, ex := 7, av := fun _ => .v (.string (ofL (numB ns))) }), (64, rO 6 0), (75, wT), (85, wT)]) (by kernel_rfl) ⟨_, rfl⟩
    (And.intro (show ((ofL []).toList == (ofL []).toList) = true from by simp)
      (And.intro (show ((ofL []).toList == (ofL []).toList) = true from by simp)
      (And.intro (show (ofL (mgW ++ (b4 .i64 (ns.length : Nat)))).size + (ofL (numB ns)).size ≤ 9223372036854775807 from by
        have h1 := sz_num ns
        have h2 := sz_pts ps
        have h3 := sz_p2 b
        simp only [sz_ap, sz_b4, sz_mgW, sz_mgK]
        omega)
      (And.intro (show GivesE Try.prog 11 [.rz [.l (numC 4 ns)] ns.length] (.v (.string (ofL (numB ns)))) from ⟨fun vs w => Go.Proofs.enters_of (P := Try.prog) Try.func11 (by kernel_rfl) rfl vs w, lnum ns (by omega) hbn⟩)
      (And.intro (show (ofL mgW).size + (ofL (b4 .i64 (ns.length : Nat))).size ≤ 9223372036854775807 from by
        have h1 := sz_num ns
        have h2 := sz_pts ps
        have h3 := sz_p2 b
        simp only [sz_ap, sz_b4, sz_mgW, sz_mgK]
        omega)
      (And.intro (show decide (((ps.length : Nat) : Int) > 4096) = true from decide_eq_true (by omega))
      (And.intro (show GivesE Try.prog 15 [.ags [.z [.l (ptsC ps)] ps.length, .c (.n 6 b.1.1), .c (.n 6 b.1.2), .c (.n 6 b.2.1.1), .c (.n 6 b.2.1.2), .c (.c (.bool b.2.2))]] (.tp [.v (.string (ofL [])), .v (.int .i64 1)]) from ⟨fun vs w => Go.Proofs.enters_of (P := Try.prog) Try.func15 (by kernel_rfl) rfl vs w, key_long ps b hp⟩)
      (And.intro (show decide (((ns.length : Nat) : Int) > 64) = true from decide_eq_true (by omega))
      (And.intro (show GivesE Try.prog 14 [.rz [.l (numC 4 ns)] ns.length] (.tp [.v (.string (ofL [])), .v (.int .i64 1)]) from ⟨fun vs w => Go.Proofs.enters_of (P := Try.prog) Try.func14 (by kernel_rfl) rfl vs w, pub_long ns hl⟩)
      (And.intro (show decide (((ps.length : Nat) : Int) ≤ 4096) = false from decide_eq_false (by omega))
      (And.intro (show decide (((ps.length : Nat) : Int) > 20) = true from decide_eq_true (by omega))
      (And.intro (show (100 : Int) = ((ns.length : Nat) : Int) ∧ ns.length ≤ n0.length ∧ flat [.l (numC 4 ns)] = (flat [.l (numC 4 n0)]).take (ns.length * 4) from cutN n0 ns en hn0)
      (And.intro (show decide (((n0.length : Nat) : Int) > 100) = true from decide_eq_true (by omega)) trivial)))))))))))))
theorem fr_BCbC (ns : List Nat) (ps : List A1) (b : A2) (hbn : sm4 ns) (hsp : smP1 ps) (hb : sml2 b) (n0 : List Nat) (en : ns = n0.take 100) (hn0 : 100 < n0.length) (hp : 4096 < ps.length) (hl : ns.length ≤ 64) (hc : ¬ cleanN ns) : Gives Try.prog 4 [.rz [.l (numC 4 n0)] n0.length, .ags [.z [.l (ptsC ps)] ps.length, .c (.n 6 b.1.1), .c (.n 6 b.1.2), .c (.n 6 b.2.1.1), .c (.n 6 b.2.1.2), .c (.c (.bool b.2.2))]] (.v (.bool true)) := by
  have hn : ns.length ≤ 100 := by rw [en, List.length_take]; omega
  exact fn_gives_at (P := Try.prog) (X := rulesY _) (env := [eFAlive, eLCnt, ePut2T]) ⟨eFAlive_ok, eLCnt_ok, ePut2T_ok, trivial⟩ Try.func4 1 (oL [(12, wT), (14, { ch := 0, hi := fun _ => ns.length, ex := 6, cs := fun _ => [.l (numC 4 ns)] }), (19, wT), (24, wF), (27, { ch := 0, hi := fun _ => 0, ex := 7, av := fun _ => .tp [.v (.string (ofL [])), .v (.int .i64 1)] }), (36, wF), (39, { ch := 0, hi := fun _ => 0, ex := 7, av := fun _ => .v (.bool false) }), (44, { ch := 0, hi := fun _ => 0, ex := 7, av := fun _ => .tp [.v (.string (ofL [])), .v (.int .i64 1)] }), (53, wT), (61, rO 6 0), (63, { ch := 0, hi := fun _ => 0, ex := 7, av := fun _ => .v (.string (ofL (numB ns))) }), (64, rO 6 0), (75, wT), (85, wT)]) (by kernel_rfl) ⟨_, rfl⟩
    (And.intro (show ((ofL []).toList == (ofL []).toList) = true from by simp)
      (And.intro (show ((ofL []).toList == (ofL []).toList) = true from by simp)
      (And.intro (show (ofL (mgW ++ (b4 .i64 (ns.length : Nat)))).size + (ofL (numB ns)).size ≤ 9223372036854775807 from by
        have h1 := sz_num ns
        have h2 := sz_pts ps
        have h3 := sz_p2 b
        simp only [sz_ap, sz_b4, sz_mgW, sz_mgK]
        omega)
      (And.intro (show GivesE Try.prog 11 [.rz [.l (numC 4 ns)] ns.length] (.v (.string (ofL (numB ns)))) from ⟨fun vs w => Go.Proofs.enters_of (P := Try.prog) Try.func11 (by kernel_rfl) rfl vs w, lnum ns (by omega) hbn⟩)
      (And.intro (show (ofL mgW).size + (ofL (b4 .i64 (ns.length : Nat))).size ≤ 9223372036854775807 from by
        have h1 := sz_num ns
        have h2 := sz_pts ps
        have h3 := sz_p2 b
        simp only [sz_ap, sz_b4, sz_mgW, sz_mgK]
        omega)
      (And.intro (show decide (((ps.length : Nat) : Int) > 4096) = true from decide_eq_true (by omega))
      (And.intro (show GivesE Try.prog 15 [.ags [.z [.l (ptsC ps)] ps.length, .c (.n 6 b.1.1), .c (.n 6 b.1.2), .c (.n 6 b.2.1.1), .c (.n 6 b.2.1.2), .c (.c (.bool b.2.2))]] (.tp [.v (.string (ofL [])), .v (.int .i64 1)]) from ⟨fun vs w => Go.Proofs.enters_of (P := Try.prog) Try.func15 (by kernel_rfl) rfl vs w, key_long ps b hp⟩)
      (And.intro (show GivesE Try.prog 10 [.rz [.l (numC 4 ns)] ns.length] (.v (.bool false)) from ⟨fun vs w => Go.Proofs.enters_of (P := Try.prog) Try.func10 (by kernel_rfl) rfl vs w, lclean_no ns (by omega) hbn hc⟩)
      (And.intro (show decide (((ns.length : Nat) : Int) > 64) = false from decide_eq_false (by omega))
      (And.intro (show GivesE Try.prog 14 [.rz [.l (numC 4 ns)] ns.length] (.tp [.v (.string (ofL [])), .v (.int .i64 1)]) from ⟨fun vs w => Go.Proofs.enters_of (P := Try.prog) Try.func14 (by kernel_rfl) rfl vs w, pub_un ns hl hbn hc⟩)
      (And.intro (show decide (((ps.length : Nat) : Int) ≤ 4096) = false from decide_eq_false (by omega))
      (And.intro (show decide (((ps.length : Nat) : Int) > 20) = true from decide_eq_true (by omega))
      (And.intro (show (100 : Int) = ((ns.length : Nat) : Int) ∧ ns.length ≤ n0.length ∧ flat [.l (numC 4 ns)] = (flat [.l (numC 4 n0)]).take (ns.length * 4) from cutN n0 ns en hn0)
      (And.intro (show decide (((n0.length : Nat) : Int) > 100) = true from decide_eq_true (by omega)) trivial))))))))))))))
theorem fr_BCcC (ns : List Nat) (ps : List A1) (b : A2) (hbn : sm4 ns) (hsp : smP1 ps) (hb : sml2 b) (n0 : List Nat) (en : ns = n0.take 100) (hn0 : 100 < n0.length) (hp : 4096 < ps.length) (hl : ns.length ≤ 64) (hc : cleanN ns) : Gives Try.prog 4 [.rz [.l (numC 4 n0)] n0.length, .ags [.z [.l (ptsC ps)] ps.length, .c (.n 6 b.1.1), .c (.n 6 b.1.2), .c (.n 6 b.2.1.1), .c (.n 6 b.2.1.2), .c (.c (.bool b.2.2))]] (.v (.bool true)) := by
  have hn : ns.length ≤ 100 := by rw [en, List.length_take]; omega
  exact fn_gives_at (P := Try.prog) (X := rulesY _) (env := [eFAlive, eLCnt, ePut2T]) ⟨eFAlive_ok, eLCnt_ok, ePut2T_ok, trivial⟩ Try.func4 1 (oL [(12, wT), (14, { ch := 0, hi := fun _ => ns.length, ex := 6, cs := fun _ => [.l (numC 4 ns)] }), (19, wT), (24, wF), (27, { ch := 0, hi := fun _ => 0, ex := 7, av := fun _ => .tp [.v (.string (ofL (pubB ns ns.length))), .v (.int .i64 0)] }), (36, wF), (39, { ch := 0, hi := fun _ => 0, ex := 7, av := fun _ => .v (.bool true) }), (43, { ch := 0, hi := fun _ => 0, ex := 7, av := fun _ => .tp [.v (.string (ofL [])), .v (.int .i64 1)] }), (52, wT), (60, rO 6 0), (62, { ch := 0, hi := fun _ => 0, ex := 7, av := fun _ => .v (.string (ofL (numB ns))) }), (63, rO 6 0), (74, wT), (84, wT)]) (by kernel_rfl) ⟨_, rfl⟩
    (And.intro (show ((ofL []).toList == (ofL []).toList) = true from by simp)
      (And.intro (show ((ofL (pubB ns ns.length)).toList == (ofL ((mgW ++ (b4 .i64 (ns.length : Nat))) ++ numB ns)).toList) = true from by unfold pubB; rw [List.take_length]; simp)
      (And.intro (show (ofL (mgW ++ (b4 .i64 (ns.length : Nat)))).size + (ofL (numB ns)).size ≤ 9223372036854775807 from by
        have h1 := sz_num ns
        have h2 := sz_pts ps
        have h3 := sz_p2 b
        simp only [sz_ap, sz_b4, sz_mgW, sz_mgK]
        omega)
      (And.intro (show GivesE Try.prog 11 [.rz [.l (numC 4 ns)] ns.length] (.v (.string (ofL (numB ns)))) from ⟨fun vs w => Go.Proofs.enters_of (P := Try.prog) Try.func11 (by kernel_rfl) rfl vs w, lnum ns (by omega) hbn⟩)
      (And.intro (show (ofL mgW).size + (ofL (b4 .i64 (ns.length : Nat))).size ≤ 9223372036854775807 from by
        have h1 := sz_num ns
        have h2 := sz_pts ps
        have h3 := sz_p2 b
        simp only [sz_ap, sz_b4, sz_mgW, sz_mgK]
        omega)
      (And.intro (show decide (((ps.length : Nat) : Int) > 4096) = true from decide_eq_true (by omega))
      (And.intro (show GivesE Try.prog 15 [.ags [.z [.l (ptsC ps)] ps.length, .c (.n 6 b.1.1), .c (.n 6 b.1.2), .c (.n 6 b.2.1.1), .c (.n 6 b.2.1.2), .c (.c (.bool b.2.2))]] (.tp [.v (.string (ofL [])), .v (.int .i64 1)]) from ⟨fun vs w => Go.Proofs.enters_of (P := Try.prog) Try.func15 (by kernel_rfl) rfl vs w, key_long ps b hp⟩)
      (And.intro (show GivesE Try.prog 10 [.rz [.l (numC 4 ns)] ns.length] (.v (.bool true)) from ⟨fun vs w => Go.Proofs.enters_of (P := Try.prog) Try.func10 (by kernel_rfl) rfl vs w, lclean_yes ns (by omega) hbn hc⟩)
      (And.intro (show decide (((ns.length : Nat) : Int) > 64) = false from decide_eq_false (by omega))
      (And.intro (show GivesE Try.prog 14 [.rz [.l (numC 4 ns)] ns.length] (.tp [.v (.string (ofL (pubB ns ns.length))), .v (.int .i64 0)]) from ⟨fun vs w => Go.Proofs.enters_of (P := Try.prog) Try.func14 (by kernel_rfl) rfl vs w, pub_ok ns hl hbn hc⟩)
      (And.intro (show decide (((ps.length : Nat) : Int) ≤ 4096) = false from decide_eq_false (by omega))
      (And.intro (show decide (((ps.length : Nat) : Int) > 20) = true from decide_eq_true (by omega))
      (And.intro (show (100 : Int) = ((ns.length : Nat) : Int) ∧ ns.length ≤ n0.length ∧ flat [.l (numC 4 ns)] = (flat [.l (numC 4 n0)]).take (ns.length * 4) from cutN n0 ns en hn0)
      (And.intro (show decide (((n0.length : Nat) : Int) > 100) = true from decide_eq_true (by omega)) trivial))))))))))))))
theorem formatRest_gives (n0 : List Nat) (p0 : List A1) (b : A2) (hbn : sm4 n0) (hsp : smP1 p0) (hb : sml2 b) : Gives Try.prog 4 [.rz [.l (numC 4 n0)] n0.length, .ags [.z [.l (ptsC p0)] p0.length, .c (.n 6 b.1.1), .c (.n 6 b.1.2), .c (.n 6 b.2.1.1), .c (.n 6 b.2.1.2), .c (.c (.bool b.2.2))]] (.v (.bool true)) := by
  by_cases hn : n0.length ≤ 100
  · by_cases hp : p0.length ≤ 20
    · by_cases hl : n0.length ≤ 64
      · by_cases hc : cleanN n0
        · by_cases h1 : ptE p0 = 0
          · by_cases h2 : p2E b = 0
            · exact fr_AAc0 n0 p0 b hbn hsp hb hn hp hl hc h1 h2
            · exact fr_AAc2 n0 p0 b hbn hsp hb hn hp hl hc h1 h2
          · exact fr_AAc1 n0 p0 b hbn hsp hb hn hp hl hc h1
        · by_cases h1 : ptE p0 = 0
          · by_cases h2 : p2E b = 0
            · exact fr_AAb0 n0 p0 b hbn hsp hb hn hp hl hc h1 h2
            · exact fr_AAb2 n0 p0 b hbn hsp hb hn hp hl hc h1 h2
          · exact fr_AAb1 n0 p0 b hbn hsp hb hn hp hl hc h1
      · by_cases h1 : ptE p0 = 0
        · by_cases h2 : p2E b = 0
          · exact fr_AAa0 n0 p0 b hbn hsp hb hn hp (by omega) h1 h2
          · exact fr_AAa2 n0 p0 b hbn hsp hb hn hp (by omega) h1 h2
        · exact fr_AAa1 n0 p0 b hbn hsp hb hn hp (by omega) h1
    · by_cases h4 : p0.length ≤ 4096
      · by_cases hl : n0.length ≤ 64
        · by_cases hc : cleanN n0
          · by_cases h1 : ptE (p0.take 20) = 0
            · by_cases h2 : p2E b = 0
              · exact fr_ABc0 n0 (p0.take 20) b hbn (fun x hx => hsp x (List.mem_of_mem_take hx)) hb hn p0 rfl (by omega) h4 hl hc h1 h2
              · exact fr_ABc2 n0 (p0.take 20) b hbn (fun x hx => hsp x (List.mem_of_mem_take hx)) hb hn p0 rfl (by omega) h4 hl hc h1 h2
            · exact fr_ABc1 n0 (p0.take 20) b hbn (fun x hx => hsp x (List.mem_of_mem_take hx)) hb hn p0 rfl (by omega) h4 hl hc h1
          · by_cases h1 : ptE (p0.take 20) = 0
            · by_cases h2 : p2E b = 0
              · exact fr_ABb0 n0 (p0.take 20) b hbn (fun x hx => hsp x (List.mem_of_mem_take hx)) hb hn p0 rfl (by omega) h4 hl hc h1 h2
              · exact fr_ABb2 n0 (p0.take 20) b hbn (fun x hx => hsp x (List.mem_of_mem_take hx)) hb hn p0 rfl (by omega) h4 hl hc h1 h2
            · exact fr_ABb1 n0 (p0.take 20) b hbn (fun x hx => hsp x (List.mem_of_mem_take hx)) hb hn p0 rfl (by omega) h4 hl hc h1
        · by_cases h1 : ptE (p0.take 20) = 0
          · by_cases h2 : p2E b = 0
            · exact fr_ABa0 n0 (p0.take 20) b hbn (fun x hx => hsp x (List.mem_of_mem_take hx)) hb hn p0 rfl (by omega) h4 (by omega) h1 h2
            · exact fr_ABa2 n0 (p0.take 20) b hbn (fun x hx => hsp x (List.mem_of_mem_take hx)) hb hn p0 rfl (by omega) h4 (by omega) h1 h2
          · exact fr_ABa1 n0 (p0.take 20) b hbn (fun x hx => hsp x (List.mem_of_mem_take hx)) hb hn p0 rfl (by omega) h4 (by omega) h1
      · by_cases hl : n0.length ≤ 64
        · by_cases hc : cleanN n0
          · exact fr_ACcC n0 p0 b hbn hsp hb hn (by omega) hl hc
          · exact fr_ACbC n0 p0 b hbn hsp hb hn (by omega) hl hc
        · exact fr_ACaC n0 p0 b hbn hsp hb hn (by omega) (by omega)
  · by_cases hp : p0.length ≤ 20
    · by_cases hl : (n0.take 100).length ≤ 64
      · by_cases hc : cleanN (n0.take 100)
        · by_cases h1 : ptE p0 = 0
          · by_cases h2 : p2E b = 0
            · exact fr_BAc0 (n0.take 100) p0 b (fun x hx => hbn x (List.mem_of_mem_take hx)) hsp hb n0 rfl (by omega) hp hl hc h1 h2
            · exact fr_BAc2 (n0.take 100) p0 b (fun x hx => hbn x (List.mem_of_mem_take hx)) hsp hb n0 rfl (by omega) hp hl hc h1 h2
          · exact fr_BAc1 (n0.take 100) p0 b (fun x hx => hbn x (List.mem_of_mem_take hx)) hsp hb n0 rfl (by omega) hp hl hc h1
        · by_cases h1 : ptE p0 = 0
          · by_cases h2 : p2E b = 0
            · exact fr_BAb0 (n0.take 100) p0 b (fun x hx => hbn x (List.mem_of_mem_take hx)) hsp hb n0 rfl (by omega) hp hl hc h1 h2
            · exact fr_BAb2 (n0.take 100) p0 b (fun x hx => hbn x (List.mem_of_mem_take hx)) hsp hb n0 rfl (by omega) hp hl hc h1 h2
          · exact fr_BAb1 (n0.take 100) p0 b (fun x hx => hbn x (List.mem_of_mem_take hx)) hsp hb n0 rfl (by omega) hp hl hc h1
      · by_cases h1 : ptE p0 = 0
        · by_cases h2 : p2E b = 0
          · exact fr_BAa0 (n0.take 100) p0 b (fun x hx => hbn x (List.mem_of_mem_take hx)) hsp hb n0 rfl (by omega) hp (by omega) h1 h2
          · exact fr_BAa2 (n0.take 100) p0 b (fun x hx => hbn x (List.mem_of_mem_take hx)) hsp hb n0 rfl (by omega) hp (by omega) h1 h2
        · exact fr_BAa1 (n0.take 100) p0 b (fun x hx => hbn x (List.mem_of_mem_take hx)) hsp hb n0 rfl (by omega) hp (by omega) h1
    · by_cases h4 : p0.length ≤ 4096
      · by_cases hl : (n0.take 100).length ≤ 64
        · by_cases hc : cleanN (n0.take 100)
          · by_cases h1 : ptE (p0.take 20) = 0
            · by_cases h2 : p2E b = 0
              · exact fr_BBc0 (n0.take 100) (p0.take 20) b (fun x hx => hbn x (List.mem_of_mem_take hx)) (fun x hx => hsp x (List.mem_of_mem_take hx)) hb n0 rfl (by omega) p0 rfl (by omega) h4 hl hc h1 h2
              · exact fr_BBc2 (n0.take 100) (p0.take 20) b (fun x hx => hbn x (List.mem_of_mem_take hx)) (fun x hx => hsp x (List.mem_of_mem_take hx)) hb n0 rfl (by omega) p0 rfl (by omega) h4 hl hc h1 h2
            · exact fr_BBc1 (n0.take 100) (p0.take 20) b (fun x hx => hbn x (List.mem_of_mem_take hx)) (fun x hx => hsp x (List.mem_of_mem_take hx)) hb n0 rfl (by omega) p0 rfl (by omega) h4 hl hc h1
          · by_cases h1 : ptE (p0.take 20) = 0
            · by_cases h2 : p2E b = 0
              · exact fr_BBb0 (n0.take 100) (p0.take 20) b (fun x hx => hbn x (List.mem_of_mem_take hx)) (fun x hx => hsp x (List.mem_of_mem_take hx)) hb n0 rfl (by omega) p0 rfl (by omega) h4 hl hc h1 h2
              · exact fr_BBb2 (n0.take 100) (p0.take 20) b (fun x hx => hbn x (List.mem_of_mem_take hx)) (fun x hx => hsp x (List.mem_of_mem_take hx)) hb n0 rfl (by omega) p0 rfl (by omega) h4 hl hc h1 h2
            · exact fr_BBb1 (n0.take 100) (p0.take 20) b (fun x hx => hbn x (List.mem_of_mem_take hx)) (fun x hx => hsp x (List.mem_of_mem_take hx)) hb n0 rfl (by omega) p0 rfl (by omega) h4 hl hc h1
        · by_cases h1 : ptE (p0.take 20) = 0
          · by_cases h2 : p2E b = 0
            · exact fr_BBa0 (n0.take 100) (p0.take 20) b (fun x hx => hbn x (List.mem_of_mem_take hx)) (fun x hx => hsp x (List.mem_of_mem_take hx)) hb n0 rfl (by omega) p0 rfl (by omega) h4 (by omega) h1 h2
            · exact fr_BBa2 (n0.take 100) (p0.take 20) b (fun x hx => hbn x (List.mem_of_mem_take hx)) (fun x hx => hsp x (List.mem_of_mem_take hx)) hb n0 rfl (by omega) p0 rfl (by omega) h4 (by omega) h1 h2
          · exact fr_BBa1 (n0.take 100) (p0.take 20) b (fun x hx => hbn x (List.mem_of_mem_take hx)) (fun x hx => hsp x (List.mem_of_mem_take hx)) hb n0 rfl (by omega) p0 rfl (by omega) h4 (by omega) h1
      · by_cases hl : (n0.take 100).length ≤ 64
        · by_cases hc : cleanN (n0.take 100)
          · exact fr_BCcC (n0.take 100) p0 b (fun x hx => hbn x (List.mem_of_mem_take hx)) hsp hb n0 rfl (by omega) (by omega) hl hc
          · exact fr_BCbC (n0.take 100) p0 b (fun x hx => hbn x (List.mem_of_mem_take hx)) hsp hb n0 rfl (by omega) (by omega) hl hc
        · exact fr_BCaC (n0.take 100) p0 b (fun x hx => hbn x (List.mem_of_mem_take hx)) hsp hb n0 rfl (by omega) (by omega) (by omega)
end Go.Proofs.Ytmbllhibdbeplaa
