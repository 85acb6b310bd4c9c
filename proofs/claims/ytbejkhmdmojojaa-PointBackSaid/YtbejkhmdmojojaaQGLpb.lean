/- Whatever points are given, chirographlaw10.PointBack says true: what is put, in short or in full, is got again. -/
import Derived.Test.YtbejkhmdmojojaaQOpn
import Derived.Test.YtbejkhmdmojojaaQGd
import Derived.Test.YtbejkhmdmojojaaQGc
import Derived.Test.YtbejkhmdmojojaaQOpt
import Derived.Test.YtbejkhmdmojojaaRows
/- Arguments that are points: two coordinates of numbers of 64 bits and a bool. Nothing here names a program. -/
set_option linter.unusedSimpArgs false
set_option linter.unusedVariables false
namespace Go.Ev
open Go.ChangeShapes Go.WideShapes Go.ChangeAt Go.RowKit

def isBoolT (P : Program) (t : TypeId) : Bool := match P.underlying t with | some .bool => true | _ => false
theorem isBoolT_eq {P : Program} {t : TypeId} (h : isBoolT P t = true) : P.underlying t = some .bool := by
  unfold isBoolT at h
  split at h
  · rename_i e; exact e
  · cases h
/-- Is a type a struct of two like parts of numbers and a bool? -/
def gT (P : Program) (k : Nat) (t : TypeId) (n : Nat) : Bool :=
  match P.underlying t with
  | some (.struct fs) =>
    match fs.toList with
    | [a, b, c] => (Nat.beq a.offset 0 && Nat.beq b.offset n && Nat.beq c.offset (n + n)) && (flatU P k a.type && flatU P k b.type && isBoolT P c.type) &&
        (Nat.beq (P.cellsOf a.type) n && Nat.beq (P.cellsOf b.type) n && Nat.beq (P.cellsOf c.type) 1) && Nat.beq (P.cellsOf t) (n + n + 1)
    | _ => false
  | _ => false

section
variable {H : Type} {enc : TypeId × Value → H} {P : Program} {w w' : World} {base base' : Nat} {spare spare' : Nat → Bool} {held held' : Bool}

theorem bool_trod {fuel : Nat} {t : TypeId} {cs : List Value} {x : DataW H × List MemPlace} (ht : P.underlying t = some .bool) (h : DataW.trod enc P w base spare held fuel t cs = some x) :
    ∃ b, cs = [.bool b] ∧ x.2 = [] ∧ DataW.trod enc P w' base' spare' held' fuel t cs = some x := by
  obtain ⟨b, rfl, rfl⟩ := DataW.trod_bool ht h
  refine ⟨b, rfl, rfl, ?_⟩
  cases fuel with
  | zero => simp [DataW.trod] at h
  | succ m => simp [DataW.trod, ht]

theorem g_trod {k fuel n : Nat} {t : TypeId} {cs : List Value} {x : DataW H × List MemPlace} (hf : gT P k t n = true) (h : DataW.trod enc P w base spare held fuel t cs = some x) :
    (∃ (c1 c2 : List Value) (b : Bool), cs = c1 ++ (c2 ++ [.bool b]) ∧ (∀ v ∈ c1, isU v) ∧ c1.length = n ∧ (∀ v ∈ c2, isU v) ∧ c2.length = n) ∧ x.2 = [] ∧ DataW.trod enc P w' base' spare' held' fuel t cs = some x := by
  unfold gT at hf
  split at hf
  · rename_i fs hu
    split at hf
    · rename_i a b c hfs
      obtain ⟨fs⟩ := fs
      simp only at hfs
      subst hfs
      simp only [Bool.and_eq_true] at hf
      obtain ⟨⟨⟨⟨⟨o1, o2⟩, o3⟩, ⟨t1, t2⟩, t3⟩, ⟨⟨z1, z2⟩, z3⟩⟩, zt⟩ := hf
      have o1 := Nat.eq_of_beq_eq_true o1
      have o2 := Nat.eq_of_beq_eq_true o2
      have o3 := Nat.eq_of_beq_eq_true o3
      have z1 := Nat.eq_of_beq_eq_true z1
      have z2 := Nat.eq_of_beq_eq_true z2
      have z3 := Nat.eq_of_beq_eq_true z3
      have zt := Nat.eq_of_beq_eq_true zt
      obtain ⟨xs, m, rfl, rfl, hl, hlen, hget⟩ := DataW.trod_struct hu h
      have g1 := hget 0 a (by simp)
      have g2 := hget 1 b (by simp)
      have g3 := hget 2 c (by simp)
      match xs, hlen with
      | [x1, x2, x3], _ =>
        simp only [List.getElem?_cons_zero, List.getElem?_cons_succ] at g1 g2 g3
        rw [o1, z1] at g1
        rw [o2, z2] at g2
        rw [o3, z3] at g3
        obtain ⟨a1, a2, a3, a4⟩ := flat_trod (w' := w') (base' := base') (spare' := spare') (held' := held') k m a.type _ _ t1 g1
        obtain ⟨b1, b2, b3, b4⟩ := flat_trod (w' := w') (base' := base') (spare' := spare') (held' := held') k m b.type _ _ t2 g2
        obtain ⟨bb, c1, c2, c4⟩ := bool_trod (w' := w') (base' := base') (spare' := spare') (held' := held') (isBoolT_eq t3) g3
        have hcs : cs = (cs.drop 0).take n ++ ((cs.drop n).take n ++ (cs.drop (n + n)).take 1) := by
          rw [zt] at hl
          rw [List.drop_zero, ← List.drop_drop, show ((cs.drop n).drop n).take 1 = (cs.drop n).drop n from List.take_of_length_le (by simp only [List.length_drop]; omega), List.take_append_drop, List.take_append_drop]
        refine ⟨⟨(cs.drop 0).take n, (cs.drop n).take n, bb, by rw [c1] at hcs; exact hcs, a1, a3.trans z1, b1, b3.trans z2⟩, by simp [a2, b2, c2], ?_⟩
        have hm : ([a, b, c].mapM fun f => DataW.trod enc P w' base' spare' held' m f.type ((cs.drop f.offset).take (P.cellsOf f.type))) = some [x1, x2, x3] := by
          refine mapM_some_of_get _ _ (by simp) fun i f hf => ?_
          match i, hf with
          | 0, hf => simp at hf; subst hf; rw [o1, z1, a4]; rfl
          | 1, hf => simp at hf; subst hf; rw [o2, z2, b4]; rfl
          | 2, hf => simp at hf; subst hf; rw [o3, z3, c4]; rfl
        unfold DataW.trod
        rw [hu]
        simp [hl, hm]
    · cases hf
  · cases hf
end

theorem open_g {H : Type} {enc : TypeId × Value → H} {P : Program} {w : World} {r : Reach} {base b0 : Nat} {spare : Nat → Bool} {held : Bool} {t : TypeId} {v : Value} {d : DataW H} {ps : List MemPlace} (k n : Nat) (hf : gT P k t n = true) (ha : aggT P t = true)
    (hval : Value.okWide P w r b0 t v) (h : DataW.Trod enc P w base spare held t v d ps) :
    ∃ (c1 c2 : List Value) (b : Bool), v = .agg (c1 ++ (c2 ++ [Value.bool b])).toArray ∧ (∀ x ∈ c1, isU x) ∧ c1.length = n ∧ (∀ x ∈ c2, isU x) ∧ c2.length = n ∧ ps = [] ∧ ∀ (w' : World) (base' : Nat) (spare' : Nat → Bool) (held' : Bool), DataW.Trod enc P w' base' spare' held' t v d [] := by
  obtain ⟨cs, rfl⟩ : ∃ cs : Array Value, v = .agg cs := by
    unfold aggT at ha
    split at ha
    · rename_i fs hu; obtain ⟨cs, h1, _⟩ := okWide_struct hu hval; exact ⟨cs, h1⟩
    · rename_i n e hu; obtain ⟨cs, h1, _⟩ := okWide_array hu hval; exact ⟨cs, h1⟩
    · cases ha
  obtain ⟨fuel, h⟩ := h
  have h1 := fun (w' : World) (base' : Nat) (spare' : Nat → Bool) (held' : Bool) => g_trod (w' := w') (base' := base') (spare' := spare') (held' := held') hf h
  obtain ⟨⟨c1, c2, b, h2, h3, h4, h5, h6⟩, h7, _⟩ := h1 w base spare held
  simp only at h7
  subst h7
  exact ⟨c1, c2, b, by rw [← h2]; show Value.agg cs = Value.agg cs.toList.toArray; rw [Array.toArray_toList], h3, h4, h5, h6, rfl, fun w' base' spare' held' => ⟨fuel, (h1 w' base' spare' held').2.2⟩⟩
end Go.Ev

/- Whatever points are given, chirographlaw10.PointBack says true: what is put, in short or in full, is got again. -/
set_option linter.unusedSimpArgs false
set_option linter.unusedVariables false
namespace Go.Proofs.Ytbejkhmdmojojaa
open Go.Ev Go.ChangeShapes Go.WideShapes Go.ChangeAt Go.RowKit
theorem flat_back1 (x y : Fin Pp) (i s : Bool) (h : may1 (x.val, y.val, i) ∧ grp1 (x.val, y.val, i)) : flat [.q (gx1 (putL1 (ofP x.val) (ofP y.val) i s)), .q (gy1 (putL1 (ofP x.val) (ofP y.val) i s)), .c (.bool (decide (inf1 (putL1 (ofP x.val) (ofP y.val) i s))))] = flat [.q x, .q y, .c (.bool i)] := by
  rw [ofP_val, ofP_val]
  obtain ⟨_, h1, h2, h3⟩ := back1 x y i s h.1 h.2
  rw [h1, h2, h3]
theorem flat_back2 (z t : F2) (j s : Bool) (h : may2 (nn z, nn t, j) ∧ grp2 (nn z, nn t, j)) : flat [.q (gx2 (putL2 (of2 (nn z)) (of2 (nn t)) j s)).1, .q (gx2 (putL2 (of2 (nn z)) (of2 (nn t)) j s)).2, .q (gy2 (putL2 (of2 (nn z)) (of2 (nn t)) j s)).1, .q (gy2 (putL2 (of2 (nn z)) (of2 (nn t)) j s)).2, .c (.bool (decide (inf2 (putL2 (of2 (nn z)) (of2 (nn t)) j s))))] = flat [.q z.1, .q z.2, .q t.1, .q t.2, .c (.bool j)] := by
  rw [nn_of, nn_of]
  obtain ⟨_, h1, h2, h3⟩ := back2 z t j s h.1 h.2
  rw [h1, h2, h3]
theorem ok_back1 (x y : Fin Pp) (i s : Bool) (h : may1 (x.val, y.val, i) ∧ grp1 (x.val, y.val, i)) : ok1 (putL1 (ofP x.val) (ofP y.val) i s) := by
  rw [ofP_val, ofP_val]; exact (back1 x y i s h.1 h.2).1
theorem ok_back2 (z t : F2) (j s : Bool) (h : may2 (nn z, nn t, j) ∧ grp2 (nn z, nn t, j)) : ok2 (putL2 (of2 (nn z)) (of2 (nn t)) j s) := by
  rw [nn_of, nn_of]; exact (back2 z t j s h.1 h.2).1
theorem size1 (x y : Fin Pp) (i : Bool) : (((ofL (putL1 x y i true)).size : Nat) : Int) = ((48 : Nat) : Int) := by
  rw [show (ofL (putL1 x y i true)).size = (putL1 x y i true).length from rfl, put1_length]
theorem size1' (x y : Fin Pp) (i : Bool) : (((ofL (putL1 x y i false)).size : Nat) : Int) = ((96 : Nat) : Int) := by
  rw [show (ofL (putL1 x y i false)).size = (putL1 x y i false).length from rfl, put1_length]
theorem size2 (x y : F2) (i : Bool) : (((ofL (putL2 x y i true)).size : Nat) : Int) = ((96 : Nat) : Int) := by
  rw [show (ofL (putL2 x y i true)).size = (putL2 x y i true).length from rfl, put2_length]
theorem size2' (x y : F2) (i : Bool) : (((ofL (putL2 x y i false)).size : Nat) : Int) = ((192 : Nat) : Int) := by
  rw [show (ofL (putL2 x y i false)).size = (putL2 x y i false).length from rfl, put2_length]
theorem pb_00 (x y : Fin Pp) (i : Bool) (z t : F2) (j : Bool) (ha : sml1 (x.val, y.val, i) ∧ may1 (x.val, y.val, i) ∧ grp1 (x.val, y.val, i)) (hb : sml2 (nn z, nn t, j) ∧ may2 (nn z, nn t, j) ∧ grp2 (nn z, nn t, j)) : Gives Try.prog 5 [.t (.ag [.q x, .q y, .c (.bool i)]), .t (.ag [.q z.1, .q z.2, .q t.1, .q t.2, .c (.bool j)])] (.v (.bool true)) :=
  fn_gives_at (P := Try.prog) (X := rulesX _) (env := [ePut1, eWide1, ePut2, eWide2, eAlive, eGot1 0, eGot2 0]) ⟨ePut1_ok, eWide1_ok, ePut2_ok, eWide2_ok, eAlive_ok, eGot1_ok 0, eGot2_ok 0, trivial⟩ Try.func5 0 (oL [(4, wO 0), (11, wO 0), (20, wO 0), (28, wO 0), (48, wO 0), (53, wO 0), (57, { ch := 1, hi := fun _ => 48 }), (62, { ch := 1, hi := fun _ => 96 }), (66, wO 0), (73, wO 0), (82, wO 0), (90, wO 0), (118, wO 0), (123, wO 0), (127, { ch := 1, hi := fun _ => 96 }), (132, { ch := 1, hi := fun _ => 192 })]) (by kernel_rfl) ⟨_, rfl⟩
      (And.intro (show (((ofL (putL2 (of2 (nn z)) (of2 (nn t)) j false)).size : Nat) : Int) = ((192 : Nat) : Int) from size2' _ _ _) 
      (And.intro (show (((ofL (putL2 (of2 (nn z)) (of2 (nn t)) j true)).size : Nat) : Int) = ((96 : Nat) : Int) from size2 _ _ _) 
      (And.intro (show flat [.q (gx2 (putL2 (of2 (nn z)) (of2 (nn t)) j false)).1, .q (gx2 (putL2 (of2 (nn z)) (of2 (nn t)) j false)).2, .q (gy2 (putL2 (of2 (nn z)) (of2 (nn t)) j false)).1, .q (gy2 (putL2 (of2 (nn z)) (of2 (nn t)) j false)).2, .c (.bool (decide (inf2 (putL2 (of2 (nn z)) (of2 (nn t)) j false))))] = flat [.q z.1, .q z.2, .q t.1, .q t.2, .c (.bool j)] from flat_back2 z t j false hb.2) 
      (And.intro (show flat [.q (gx2 (putL2 (of2 (nn z)) (of2 (nn t)) j true)).1, .q (gx2 (putL2 (of2 (nn z)) (of2 (nn t)) j true)).2, .q (gy2 (putL2 (of2 (nn z)) (of2 (nn t)) j true)).1, .q (gy2 (putL2 (of2 (nn z)) (of2 (nn t)) j true)).2, .c (.bool (decide (inf2 (putL2 (of2 (nn z)) (of2 (nn t)) j true))))] = flat [.q z.1, .q z.2, .q t.1, .q t.2, .c (.bool j)] from flat_back2 z t j true hb.2) 
      (And.intro (show ok2 (putL2 (of2 (nn z)) (of2 (nn t)) j false) from ok_back2 z t j false hb.2) 
      (And.intro (show ok2 (putL2 (of2 (nn z)) (of2 (nn t)) j true) from ok_back2 z t j true hb.2) 
      (And.intro (show sml2 (nn z, nn t, j) ∧ may2 (nn z, nn t, j) ∧ grp2 (nn z, nn t, j) from hb) 
      (And.intro (show sml2 (nn z, nn t, j) ∧ may2 (nn z, nn t, j) ∧ grp2 (nn z, nn t, j) from hb) 
      (And.intro (show (((ofL (putL1 (ofP x.val) (ofP y.val) i false)).size : Nat) : Int) = ((96 : Nat) : Int) from size1' _ _ _) 
      (And.intro (show (((ofL (putL1 (ofP x.val) (ofP y.val) i true)).size : Nat) : Int) = ((48 : Nat) : Int) from size1 _ _ _) 
      (And.intro (show flat [.q (gx1 (putL1 (ofP x.val) (ofP y.val) i false)), .q (gy1 (putL1 (ofP x.val) (ofP y.val) i false)), .c (.bool (decide (inf1 (putL1 (ofP x.val) (ofP y.val) i false))))] = flat [.q x, .q y, .c (.bool i)] from flat_back1 x y i false ha.2) 
      (And.intro (show flat [.q (gx1 (putL1 (ofP x.val) (ofP y.val) i true)), .q (gy1 (putL1 (ofP x.val) (ofP y.val) i true)), .c (.bool (decide (inf1 (putL1 (ofP x.val) (ofP y.val) i true))))] = flat [.q x, .q y, .c (.bool i)] from flat_back1 x y i true ha.2) 
      (And.intro (show ok1 (putL1 (ofP x.val) (ofP y.val) i false) from ok_back1 x y i false ha.2) 
      (And.intro (show ok1 (putL1 (ofP x.val) (ofP y.val) i true) from ok_back1 x y i true ha.2) 
      (And.intro (show sml1 (x.val, y.val, i) ∧ may1 (x.val, y.val, i) ∧ grp1 (x.val, y.val, i) from ha) 
      (And.intro (show sml1 (x.val, y.val, i) ∧ may1 (x.val, y.val, i) ∧ grp1 (x.val, y.val, i) from ha) trivial))))))))))))))))
theorem pb_01 (x y : Fin Pp) (i : Bool) (b : A2) (ha : sml1 (x.val, y.val, i) ∧ may1 (x.val, y.val, i) ∧ grp1 (x.val, y.val, i)) (hb : sml2 b ∧ ¬ may2 b) : Gives Try.prog 5 [.t (.ag [.q x, .q y, .c (.bool i)]), .t (.ag [.n 6 b.1.1, .n 6 b.1.2, .n 6 b.2.1.1, .n 6 b.2.1.2, .c (.bool b.2.2)])] (.v (.bool true)) :=
  fn_gives_at (P := Try.prog) (X := rulesX _) (env := [ePut1, eWide1, ePut2, eWide2, eAlive, eGot1 0, eGot2 0]) ⟨ePut1_ok, eWide1_ok, ePut2_ok, eWide2_ok, eAlive_ok, eGot1_ok 0, eGot2_ok 0, trivial⟩ Try.func5 0 (oL [(4, wO 0), (11, wO 0), (20, wO 0), (28, wO 0), (48, wO 0), (53, wO 0), (57, { ch := 1, hi := fun _ => 48 }), (62, { ch := 1, hi := fun _ => 96 }), (66, wO 1), (73, wO 1)]) (by kernel_rfl) ⟨_, rfl⟩
      (And.intro (show sml2 b ∧ ¬ may2 b from hb) 
      (And.intro (show sml2 b ∧ ¬ may2 b from hb) 
      (And.intro (show (((ofL (putL1 (ofP x.val) (ofP y.val) i false)).size : Nat) : Int) = ((96 : Nat) : Int) from size1' _ _ _) 
      (And.intro (show (((ofL (putL1 (ofP x.val) (ofP y.val) i true)).size : Nat) : Int) = ((48 : Nat) : Int) from size1 _ _ _) 
      (And.intro (show flat [.q (gx1 (putL1 (ofP x.val) (ofP y.val) i false)), .q (gy1 (putL1 (ofP x.val) (ofP y.val) i false)), .c (.bool (decide (inf1 (putL1 (ofP x.val) (ofP y.val) i false))))] = flat [.q x, .q y, .c (.bool i)] from flat_back1 x y i false ha.2) 
      (And.intro (show flat [.q (gx1 (putL1 (ofP x.val) (ofP y.val) i true)), .q (gy1 (putL1 (ofP x.val) (ofP y.val) i true)), .c (.bool (decide (inf1 (putL1 (ofP x.val) (ofP y.val) i true))))] = flat [.q x, .q y, .c (.bool i)] from flat_back1 x y i true ha.2) 
      (And.intro (show ok1 (putL1 (ofP x.val) (ofP y.val) i false) from ok_back1 x y i false ha.2) 
      (And.intro (show ok1 (putL1 (ofP x.val) (ofP y.val) i true) from ok_back1 x y i true ha.2) 
      (And.intro (show sml1 (x.val, y.val, i) ∧ may1 (x.val, y.val, i) ∧ grp1 (x.val, y.val, i) from ha) 
      (And.intro (show sml1 (x.val, y.val, i) ∧ may1 (x.val, y.val, i) ∧ grp1 (x.val, y.val, i) from ha) trivial))))))))))
theorem pb_02 (x y : Fin Pp) (i : Bool) (b : A2) (ha : sml1 (x.val, y.val, i) ∧ may1 (x.val, y.val, i) ∧ grp1 (x.val, y.val, i)) (hb : sml2 b ∧ may2 b ∧ ¬ grp2 b) : Gives Try.prog 5 [.t (.ag [.q x, .q y, .c (.bool i)]), .t (.ag [.n 6 b.1.1, .n 6 b.1.2, .n 6 b.2.1.1, .n 6 b.2.1.2, .c (.bool b.2.2)])] (.v (.bool true)) :=
  fn_gives_at (P := Try.prog) (X := rulesX _) (env := [ePut1, eWide1, ePut2, eWide2, eAlive, eGot1 0, eGot2 0]) ⟨ePut1_ok, eWide1_ok, ePut2_ok, eWide2_ok, eAlive_ok, eGot1_ok 0, eGot2_ok 0, trivial⟩ Try.func5 0 (oL [(4, wO 0), (11, wO 0), (20, wO 0), (28, wO 0), (48, wO 0), (53, wO 0), (57, { ch := 1, hi := fun _ => 48 }), (62, { ch := 1, hi := fun _ => 96 }), (66, wO 2), (73, wO 2)]) (by kernel_rfl) ⟨_, rfl⟩
      (And.intro (show sml2 b ∧ may2 b ∧ ¬ grp2 b from hb) 
      (And.intro (show sml2 b ∧ may2 b ∧ ¬ grp2 b from hb) 
      (And.intro (show (((ofL (putL1 (ofP x.val) (ofP y.val) i false)).size : Nat) : Int) = ((96 : Nat) : Int) from size1' _ _ _) 
      (And.intro (show (((ofL (putL1 (ofP x.val) (ofP y.val) i true)).size : Nat) : Int) = ((48 : Nat) : Int) from size1 _ _ _) 
      (And.intro (show flat [.q (gx1 (putL1 (ofP x.val) (ofP y.val) i false)), .q (gy1 (putL1 (ofP x.val) (ofP y.val) i false)), .c (.bool (decide (inf1 (putL1 (ofP x.val) (ofP y.val) i false))))] = flat [.q x, .q y, .c (.bool i)] from flat_back1 x y i false ha.2) 
      (And.intro (show flat [.q (gx1 (putL1 (ofP x.val) (ofP y.val) i true)), .q (gy1 (putL1 (ofP x.val) (ofP y.val) i true)), .c (.bool (decide (inf1 (putL1 (ofP x.val) (ofP y.val) i true))))] = flat [.q x, .q y, .c (.bool i)] from flat_back1 x y i true ha.2) 
      (And.intro (show ok1 (putL1 (ofP x.val) (ofP y.val) i false) from ok_back1 x y i false ha.2) 
      (And.intro (show ok1 (putL1 (ofP x.val) (ofP y.val) i true) from ok_back1 x y i true ha.2) 
      (And.intro (show sml1 (x.val, y.val, i) ∧ may1 (x.val, y.val, i) ∧ grp1 (x.val, y.val, i) from ha) 
      (And.intro (show sml1 (x.val, y.val, i) ∧ may1 (x.val, y.val, i) ∧ grp1 (x.val, y.val, i) from ha) trivial))))))))))
theorem pb_10 (a : A1) (z t : F2) (j : Bool) (ha : sml1 a ∧ ¬ may1 a) (hb : sml2 (nn z, nn t, j) ∧ may2 (nn z, nn t, j) ∧ grp2 (nn z, nn t, j)) : Gives Try.prog 5 [.t (.ag [.n 6 a.1, .n 6 a.2.1, .c (.bool a.2.2)]), .t (.ag [.q z.1, .q z.2, .q t.1, .q t.2, .c (.bool j)])] (.v (.bool true)) :=
  fn_gives_at (P := Try.prog) (X := rulesX _) (env := [ePut1, eWide1, ePut2, eWide2, eAlive, eGot1 0, eGot2 0]) ⟨ePut1_ok, eWide1_ok, ePut2_ok, eWide2_ok, eAlive_ok, eGot1_ok 0, eGot2_ok 0, trivial⟩ Try.func5 0 (oL [(4, wO 1), (11, wO 1), (20, wO 0), (27, wO 0), (36, wO 0), (44, wO 0), (72, wO 0), (77, wO 0), (81, { ch := 1, hi := fun _ => 96 }), (86, { ch := 1, hi := fun _ => 192 })]) (by kernel_rfl) ⟨_, rfl⟩
      (And.intro (show (((ofL (putL2 (of2 (nn z)) (of2 (nn t)) j false)).size : Nat) : Int) = ((192 : Nat) : Int) from size2' _ _ _) 
      (And.intro (show (((ofL (putL2 (of2 (nn z)) (of2 (nn t)) j true)).size : Nat) : Int) = ((96 : Nat) : Int) from size2 _ _ _) 
      (And.intro (show flat [.q (gx2 (putL2 (of2 (nn z)) (of2 (nn t)) j false)).1, .q (gx2 (putL2 (of2 (nn z)) (of2 (nn t)) j false)).2, .q (gy2 (putL2 (of2 (nn z)) (of2 (nn t)) j false)).1, .q (gy2 (putL2 (of2 (nn z)) (of2 (nn t)) j false)).2, .c (.bool (decide (inf2 (putL2 (of2 (nn z)) (of2 (nn t)) j false))))] = flat [.q z.1, .q z.2, .q t.1, .q t.2, .c (.bool j)] from flat_back2 z t j false hb.2) 
      (And.intro (show flat [.q (gx2 (putL2 (of2 (nn z)) (of2 (nn t)) j true)).1, .q (gx2 (putL2 (of2 (nn z)) (of2 (nn t)) j true)).2, .q (gy2 (putL2 (of2 (nn z)) (of2 (nn t)) j true)).1, .q (gy2 (putL2 (of2 (nn z)) (of2 (nn t)) j true)).2, .c (.bool (decide (inf2 (putL2 (of2 (nn z)) (of2 (nn t)) j true))))] = flat [.q z.1, .q z.2, .q t.1, .q t.2, .c (.bool j)] from flat_back2 z t j true hb.2) 
      (And.intro (show ok2 (putL2 (of2 (nn z)) (of2 (nn t)) j false) from ok_back2 z t j false hb.2) 
      (And.intro (show ok2 (putL2 (of2 (nn z)) (of2 (nn t)) j true) from ok_back2 z t j true hb.2) 
      (And.intro (show sml2 (nn z, nn t, j) ∧ may2 (nn z, nn t, j) ∧ grp2 (nn z, nn t, j) from hb) 
      (And.intro (show sml2 (nn z, nn t, j) ∧ may2 (nn z, nn t, j) ∧ grp2 (nn z, nn t, j) from hb) 
      (And.intro (show sml1 a ∧ ¬ may1 a from ha) 
      (And.intro (show sml1 a ∧ ¬ may1 a from ha) trivial))))))))))
theorem pb_11 (a : A1) (b : A2) (ha : sml1 a ∧ ¬ may1 a) (hb : sml2 b ∧ ¬ may2 b) : Gives Try.prog 5 [.t (.ag [.n 6 a.1, .n 6 a.2.1, .c (.bool a.2.2)]), .t (.ag [.n 6 b.1.1, .n 6 b.1.2, .n 6 b.2.1.1, .n 6 b.2.1.2, .c (.bool b.2.2)])] (.v (.bool true)) :=
  fn_gives_at (P := Try.prog) (X := rulesX _) (env := [ePut1, eWide1, ePut2, eWide2, eAlive, eGot1 0, eGot2 0]) ⟨ePut1_ok, eWide1_ok, ePut2_ok, eWide2_ok, eAlive_ok, eGot1_ok 0, eGot2_ok 0, trivial⟩ Try.func5 0 (oL [(4, wO 1), (11, wO 1), (20, wO 1), (27, wO 1)]) (by kernel_rfl) ⟨_, rfl⟩
      (And.intro (show sml2 b ∧ ¬ may2 b from hb) 
      (And.intro (show sml2 b ∧ ¬ may2 b from hb) 
      (And.intro (show sml1 a ∧ ¬ may1 a from ha) 
      (And.intro (show sml1 a ∧ ¬ may1 a from ha) trivial))))
theorem pb_12 (a : A1) (b : A2) (ha : sml1 a ∧ ¬ may1 a) (hb : sml2 b ∧ may2 b ∧ ¬ grp2 b) : Gives Try.prog 5 [.t (.ag [.n 6 a.1, .n 6 a.2.1, .c (.bool a.2.2)]), .t (.ag [.n 6 b.1.1, .n 6 b.1.2, .n 6 b.2.1.1, .n 6 b.2.1.2, .c (.bool b.2.2)])] (.v (.bool true)) :=
  fn_gives_at (P := Try.prog) (X := rulesX _) (env := [ePut1, eWide1, ePut2, eWide2, eAlive, eGot1 0, eGot2 0]) ⟨ePut1_ok, eWide1_ok, ePut2_ok, eWide2_ok, eAlive_ok, eGot1_ok 0, eGot2_ok 0, trivial⟩ Try.func5 0 (oL [(4, wO 1), (11, wO 1), (20, wO 2), (27, wO 2)]) (by kernel_rfl) ⟨_, rfl⟩
      (And.intro (show sml2 b ∧ may2 b ∧ ¬ grp2 b from hb) 
      (And.intro (show sml2 b ∧ may2 b ∧ ¬ grp2 b from hb) 
      (And.intro (show sml1 a ∧ ¬ may1 a from ha) 
      (And.intro (show sml1 a ∧ ¬ may1 a from ha) trivial))))
theorem pb_20 (a : A1) (z t : F2) (j : Bool) (ha : sml1 a ∧ may1 a ∧ ¬ grp1 a) (hb : sml2 (nn z, nn t, j) ∧ may2 (nn z, nn t, j) ∧ grp2 (nn z, nn t, j)) : Gives Try.prog 5 [.t (.ag [.n 6 a.1, .n 6 a.2.1, .c (.bool a.2.2)]), .t (.ag [.q z.1, .q z.2, .q t.1, .q t.2, .c (.bool j)])] (.v (.bool true)) :=
  fn_gives_at (P := Try.prog) (X := rulesX _) (env := [ePut1, eWide1, ePut2, eWide2, eAlive, eGot1 0, eGot2 0]) ⟨ePut1_ok, eWide1_ok, ePut2_ok, eWide2_ok, eAlive_ok, eGot1_ok 0, eGot2_ok 0, trivial⟩ Try.func5 0 (oL [(4, wO 2), (11, wO 2), (20, wO 0), (27, wO 0), (36, wO 0), (44, wO 0), (72, wO 0), (77, wO 0), (81, { ch := 1, hi := fun _ => 96 }), (86, { ch := 1, hi := fun _ => 192 })]) (by kernel_rfl) ⟨_, rfl⟩
      (And.intro (show (((ofL (putL2 (of2 (nn z)) (of2 (nn t)) j false)).size : Nat) : Int) = ((192 : Nat) : Int) from size2' _ _ _) 
      (And.intro (show (((ofL (putL2 (of2 (nn z)) (of2 (nn t)) j true)).size : Nat) : Int) = ((96 : Nat) : Int) from size2 _ _ _) 
      (And.intro (show flat [.q (gx2 (putL2 (of2 (nn z)) (of2 (nn t)) j false)).1, .q (gx2 (putL2 (of2 (nn z)) (of2 (nn t)) j false)).2, .q (gy2 (putL2 (of2 (nn z)) (of2 (nn t)) j false)).1, .q (gy2 (putL2 (of2 (nn z)) (of2 (nn t)) j false)).2, .c (.bool (decide (inf2 (putL2 (of2 (nn z)) (of2 (nn t)) j false))))] = flat [.q z.1, .q z.2, .q t.1, .q t.2, .c (.bool j)] from flat_back2 z t j false hb.2) 
      (And.intro (show flat [.q (gx2 (putL2 (of2 (nn z)) (of2 (nn t)) j true)).1, .q (gx2 (putL2 (of2 (nn z)) (of2 (nn t)) j true)).2, .q (gy2 (putL2 (of2 (nn z)) (of2 (nn t)) j true)).1, .q (gy2 (putL2 (of2 (nn z)) (of2 (nn t)) j true)).2, .c (.bool (decide (inf2 (putL2 (of2 (nn z)) (of2 (nn t)) j true))))] = flat [.q z.1, .q z.2, .q t.1, .q t.2, .c (.bool j)] from flat_back2 z t j true hb.2) 
      (And.intro (show ok2 (putL2 (of2 (nn z)) (of2 (nn t)) j false) from ok_back2 z t j false hb.2) 
      (And.intro (show ok2 (putL2 (of2 (nn z)) (of2 (nn t)) j true) from ok_back2 z t j true hb.2) 
      (And.intro (show sml2 (nn z, nn t, j) ∧ may2 (nn z, nn t, j) ∧ grp2 (nn z, nn t, j) from hb) 
      (And.intro (show sml2 (nn z, nn t, j) ∧ may2 (nn z, nn t, j) ∧ grp2 (nn z, nn t, j) from hb) 
      (And.intro (show sml1 a ∧ may1 a ∧ ¬ grp1 a from ha) 
      (And.intro (show sml1 a ∧ may1 a ∧ ¬ grp1 a from ha) trivial))))))))))
theorem pb_21 (a : A1) (b : A2) (ha : sml1 a ∧ may1 a ∧ ¬ grp1 a) (hb : sml2 b ∧ ¬ may2 b) : Gives Try.prog 5 [.t (.ag [.n 6 a.1, .n 6 a.2.1, .c (.bool a.2.2)]), .t (.ag [.n 6 b.1.1, .n 6 b.1.2, .n 6 b.2.1.1, .n 6 b.2.1.2, .c (.bool b.2.2)])] (.v (.bool true)) :=
  fn_gives_at (P := Try.prog) (X := rulesX _) (env := [ePut1, eWide1, ePut2, eWide2, eAlive, eGot1 0, eGot2 0]) ⟨ePut1_ok, eWide1_ok, ePut2_ok, eWide2_ok, eAlive_ok, eGot1_ok 0, eGot2_ok 0, trivial⟩ Try.func5 0 (oL [(4, wO 2), (11, wO 2), (20, wO 1), (27, wO 1)]) (by kernel_rfl) ⟨_, rfl⟩
      (And.intro (show sml2 b ∧ ¬ may2 b from hb) 
      (And.intro (show sml2 b ∧ ¬ may2 b from hb) 
      (And.intro (show sml1 a ∧ may1 a ∧ ¬ grp1 a from ha) 
      (And.intro (show sml1 a ∧ may1 a ∧ ¬ grp1 a from ha) trivial))))
theorem pb_22 (a : A1) (b : A2) (ha : sml1 a ∧ may1 a ∧ ¬ grp1 a) (hb : sml2 b ∧ may2 b ∧ ¬ grp2 b) : Gives Try.prog 5 [.t (.ag [.n 6 a.1, .n 6 a.2.1, .c (.bool a.2.2)]), .t (.ag [.n 6 b.1.1, .n 6 b.1.2, .n 6 b.2.1.1, .n 6 b.2.1.2, .c (.bool b.2.2)])] (.v (.bool true)) :=
  fn_gives_at (P := Try.prog) (X := rulesX _) (env := [ePut1, eWide1, ePut2, eWide2, eAlive, eGot1 0, eGot2 0]) ⟨ePut1_ok, eWide1_ok, ePut2_ok, eWide2_ok, eAlive_ok, eGot1_ok 0, eGot2_ok 0, trivial⟩ Try.func5 0 (oL [(4, wO 2), (11, wO 2), (20, wO 2), (27, wO 2)]) (by kernel_rfl) ⟨_, rfl⟩
      (And.intro (show sml2 b ∧ may2 b ∧ ¬ grp2 b from hb) 
      (And.intro (show sml2 b ∧ may2 b ∧ ¬ grp2 b from hb) 
      (And.intro (show sml1 a ∧ may1 a ∧ ¬ grp1 a from ha) 
      (And.intro (show sml1 a ∧ may1 a ∧ ¬ grp1 a from ha) trivial))))
theorem may1_is {x y : Nat} {b : Bool} (h : may1 (x, y, b)) : is1 x ∧ is1 y := by
  cases b with
  | true =>
    obtain ⟨rfl, rfl⟩ : x = 0 ∧ y = 0 := h
    exact ⟨by unfold is1; decide, by unfold is1; decide⟩
  | false =>
    have h : is1 x ∧ is1 y ∧ ofP y * ofP y = rhs1 (ofP x) := h
    exact ⟨h.1, h.2.1⟩
theorem may2_is {x y : N2} {b : Bool} (h : may2 (x, y, b)) : is2 x ∧ is2 y := by
  cases b with
  | true =>
    obtain ⟨rfl, rfl⟩ : x = (0, 0) ∧ y = (0, 0) := h
    exact ⟨by unfold is2; decide, by unfold is2; decide⟩
  | false =>
    have h : is2 x ∧ is2 y ∧ mul2 (of2 y) (of2 y) = rhs2 (of2 x) := h
    exact ⟨h.1, h.2.1⟩
theorem val1 {x : Nat} (h : is1 x) : (ofP x).val = x := Nat.mod_eq_of_lt h
theorem val2 {x : N2} (h : is2 x) : nn (of2 x) = x := by
  show (x.1 % Pp, x.2 % Pp) = x
  rw [Nat.mod_eq_of_lt h.1, Nat.mod_eq_of_lt h.2]
theorem pointBack_gives (a : A1) (b : A2) (ha : sml1 a) (hb : sml2 b) : Gives Try.prog 5 [.t (.ag [.n 6 a.1, .n 6 a.2.1, .c (.bool a.2.2)]), .t (.ag [.n 6 b.1.1, .n 6 b.1.2, .n 6 b.2.1.1, .n 6 b.2.1.2, .c (.bool b.2.2)])] (.v (.bool true)) := by
  by_cases m1 : may1 a
  · by_cases g1 : grp1 a
    · obtain ⟨x, y, i⟩ := a
      obtain ⟨k1, k2⟩ := may1_is m1
      refine Gives.arg1 (b := [.q (ofP x), .q (ofP y), .c (.bool i)]) ?_ rfl rfl (q1_n x y i k1 k2)
      have ha' : sml1 ((ofP x).val, (ofP y).val, i) ∧ may1 ((ofP x).val, (ofP y).val, i) ∧ grp1 ((ofP x).val, (ofP y).val, i) := by rw [val1 k1, val1 k2]; exact ⟨ha, m1, g1⟩
      by_cases m2 : may2 b
      · by_cases g2 : grp2 b
        · obtain ⟨z, t, j⟩ := b
          obtain ⟨k3, k4⟩ := may2_is m2
          refine Gives.arg2 (b := [.q (of2 z).1, .q (of2 z).2, .q (of2 t).1, .q (of2 t).2, .c (.bool j)]) ?_ rfl rfl (q2_n z t j k3 k4)
          exact pb_00 _ _ i _ _ j ha' (by rw [val2 k3, val2 k4]; exact ⟨hb, m2, g2⟩)
        · exact pb_02 _ _ i b ha' ⟨hb, m2, g2⟩
      · exact pb_01 _ _ i b ha' ⟨hb, m2⟩
    · by_cases m2 : may2 b
      · by_cases g2 : grp2 b
        · obtain ⟨z, t, j⟩ := b
          obtain ⟨k3, k4⟩ := may2_is m2
          refine Gives.arg2 (b := [.q (of2 z).1, .q (of2 z).2, .q (of2 t).1, .q (of2 t).2, .c (.bool j)]) ?_ rfl rfl (q2_n z t j k3 k4)
          exact pb_20 a _ _ j ⟨ha, m1, g1⟩ (by rw [val2 k3, val2 k4]; exact ⟨hb, m2, g2⟩)
        · exact pb_22 a b ⟨ha, m1, g1⟩ ⟨hb, m2, g2⟩
      · exact pb_21 a b ⟨ha, m1, g1⟩ ⟨hb, m2⟩
  · by_cases m2 : may2 b
    · by_cases g2 : grp2 b
      · obtain ⟨z, t, j⟩ := b
        obtain ⟨k3, k4⟩ := may2_is m2
        refine Gives.arg2 (b := [.q (of2 z).1, .q (of2 z).2, .q (of2 t).1, .q (of2 t).2, .c (.bool j)]) ?_ rfl rfl (q2_n z t j k3 k4)
        exact pb_10 a _ _ j ⟨ha, m1⟩ (by rw [val2 k3, val2 k4]; exact ⟨hb, m2, g2⟩)
      · exact pb_12 a b ⟨ha, m1⟩ ⟨hb, m2, g2⟩
    · exact pb_11 a b ⟨ha, m1⟩ ⟨hb, m2⟩
theorem Try.own : ownKnob Try.prog.godebug = none := by kernel_rfl

set_option maxRecDepth 100000 in
theorem pointBack_lifted (os : Os) (started : os.Started) (H : Type) (enc : TypeId × Value → H) :
    ReturnsInHanded {} Try.checked os 5 .any (Rows.pointBackSpec.pre6 enc Try.prog Try.f5 Rows.pointBackRow.domain false) (Rows.pointBackSpec.post enc Try.prog Try.f5 false true false false) := by
  refine returnsInHanded_of_change (C := Try.checked) Try.own started (by kernel_rfl) Try.func5
    (ChangeSpec.witness6 (enc := enc) (C := Try.checked) false ⟨#[], #[.agg ((Array.replicate 12 (.int .u64 0)).push (.bool false)), .agg ((Array.replicate 24 (.int .u64 0)).push (.bool false))], []⟩ 8 (by kernel_rfl) (by kernel_rfl) (by kernel_rfl) (by kernel_rfl)) ?_
  intro W base args ds gs before hval0 hW _ _
  have hval : ∀ (j : Nat) t v, Try.f5.params[j]? = some t → args[j]? = some v → Value.okWide Try.prog W .any base t v := hval0
  have hW' := hW
  obtain ⟨p, q, hA0, hV, rfl, _, _⟩ := hW
  have hA : DataW.TrodAll enc Try.prog W 0 (fun _ => true) true Try.f5.params.toList args.toList ds p := hA0
  rw [Try.params5] at hA hval
  obtain ⟨v0, v1, d0, d1, p0, p1, rfl, rfl, rfl, h0, h1⟩ := trodAll_two hA
  obtain ⟨rfl, rfl⟩ := trodVars_none hV
  obtain ⟨c0, e0, g0, rfl, u0, l0, u0', l0', rfl, s0⟩ := open_g 8 6 (by kernel_rfl) (by kernel_rfl) (hval 0 _ v0 rfl rfl) h0
  obtain ⟨x0, bx0, rfl⟩ := u_limbs 6 c0 u0 l0
  replace bx0 := Nat.lt_of_lt_of_eq bx0 (show _ = 39402006196394479212279040100143613805079739270465446667948293404245721771497210611414266254884915640806627990306816 from rfl)
  obtain ⟨y0, by0, rfl⟩ := u_limbs 6 e0 u0' l0'
  replace by0 := Nat.lt_of_lt_of_eq by0 (show _ = 39402006196394479212279040100143613805079739270465446667948293404245721771497210611414266254884915640806627990306816 from rfl)
  obtain ⟨c1, e1, g1, rfl, u1, l1, u1', l1', rfl, s1⟩ := open_g 8 12 (by kernel_rfl) (by kernel_rfl) (hval 1 _ v1 rfl rfl) h1
  obtain ⟨x1, bx1, rfl⟩ := u_n2' c1 u1 l1
  obtain ⟨y1, by1, rfl⟩ := u_n2' e1 u1' l1'
  clear hA0 hval0
  simp only [List.append_nil] at hW'
  obtain ⟨v, hv, hrun⟩ := pointBack_gives (x0, y0, g0) (x1, y1, g1) ⟨bx0, by0⟩ ⟨bx1, by1⟩
  simp only [AV.val?, Option.some.injEq] at hv
  subst hv
  refine (hrun W [_, _] ⟨rfl, rfl, trivial⟩).mono fun e W' ⟨he, hb⟩ => ?_
  subst he
  exact ⟨_, rfl, _, _, _, [], [], [], hW', trodAll_mk1 (shut_bool Try.underlying4 true), trodAll_mk2 (s0 _ _ _ _) (s1 _ _ _ _), rfl, hb.frame _, fun h => by cases h⟩

theorem pointBack_holds : Rows.PointBackSaid :=
  OpenClaim.holds_of_wide 5 Try.f5 rfl rfl rfl rfl rfl rfl rfl ⟨rfl, rfl, rfl, rfl, rfl⟩ rfl rfl rfl rfl rfl (by kernel_rfl) Try.func5 (by kernel_rfl)
    (of_decide_eq_true (by kernel_rfl)) (by unfold Func.isWrapper; first | (rw [if_pos (by decide +kernel)]; kernel_rfl) | (rw [if_neg (by decide +kernel)]; exact ⟨rfl, rfl⟩))
    (fun os started H enc _ => pointBack_lifted os started H enc)
end Go.Proofs.Ytbejkhmdmojojaa
