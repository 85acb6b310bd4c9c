/- Whatever bytes are given, chirographlaw10.PointOnce says true: what is got of them, put again in short or in full, as it was, is the bytes. -/
import Derived.Test.YtbejkhmdmojojaaQOpn
import Derived.Test.YtbejkhmdmojojaaQGd
import Derived.Test.YtbejkhmdmojojaaQGc
import Derived.Test.YtbejkhmdmojojaaQOpt
import Derived.ChangeMaps5
import Derived.Test.YtbejkhmdmojojaaRows
/- Arguments that are points: two coordinates of numbers of 64 bits and a bool. Nothing here names a program. -/
set_option linter.unusedSimpArgs false
set_option linter.unusedVariables false
namespace Go.Ev
open Go.ChangeShapes Go.WideShapes Go.ChangeAt Go.RowKit

def isBoolT (P : Program) (t : TypeId) : Bool := match P.underlying t with | some .bool => true | _ => false
theorem isBoolT_eq {P : Program} {t : TypeId} (h : isBoolT P t = true) : P.underlying t = some .bool := by
  unfold isBoolT at h
  split at h
  · rename_i e; exact e
  · cases h
/-- Is a type a struct of two like parts of numbers and a bool? -/
def gT (P : Program) (k : Nat) (t : TypeId) (n : Nat) : Bool :=
  match P.underlying t with
  | some (.struct fs) =>
    match fs.toList with
    | [a, b, c] => (Nat.beq a.offset 0 && Nat.beq b.offset n && Nat.beq c.offset (n + n)) && (flatU P k a.type && flatU P k b.type && isBoolT P c.type) &&
        (Nat.beq (P.cellsOf a.type) n && Nat.beq (P.cellsOf b.type) n && Nat.beq (P.cellsOf c.type) 1) && Nat.beq (P.cellsOf t) (n + n + 1)
    | _ => false
  | _ => false

section
variable {H : Type} {enc : TypeId × Value → H} {P : Program} {w w' : World} {base base' : Nat} {spare spare' : Nat → Bool} {held held' : Bool}

theorem bool_trod {fuel : Nat} {t : TypeId} {cs : List Value} {x : DataW H × List MemPlace} (ht : P.underlying t = some .bool) (h : DataW.trod enc P w base spare held fuel t cs = some x) :
    ∃ b, cs = [.bool b] ∧ x.2 = [] ∧ DataW.trod enc P w' base' spare' held' fuel t cs = some x := by
  obtain ⟨b, rfl, rfl⟩ := DataW.trod_bool ht h
  refine ⟨b, rfl, rfl, ?_⟩
  cases fuel with
  | zero => simp [DataW.trod] at h
  | succ m => simp [DataW.trod, ht]

theorem g_trod {k fuel n : Nat} {t : TypeId} {cs : List Value} {x : DataW H × List MemPlace} (hf : gT P k t n = true) (h : DataW.trod enc P w base spare held fuel t cs = some x) :
    (∃ (c1 c2 : List Value) (b : Bool), cs = c1 ++ (c2 ++ [.bool b]) ∧ (∀ v ∈ c1, isU v) ∧ c1.length = n ∧ (∀ v ∈ c2, isU v) ∧ c2.length = n) ∧ x.2 = [] ∧ DataW.trod enc P w' base' spare' held' fuel t cs = some x := by
  unfold gT at hf
  split at hf
  · rename_i fs hu
    split at hf
    · rename_i a b c hfs
      obtain ⟨fs⟩ := fs
      simp only at hfs
      subst hfs
      simp only [Bool.and_eq_true] at hf
      obtain ⟨⟨⟨⟨⟨o1, o2⟩, o3⟩, ⟨t1, t2⟩, t3⟩, ⟨⟨z1, z2⟩, z3⟩⟩, zt⟩ := hf
      have o1 := Nat.eq_of_beq_eq_true o1
      have o2 := Nat.eq_of_beq_eq_true o2
      have o3 := Nat.eq_of_beq_eq_true o3
      have z1 := Nat.eq_of_beq_eq_true z1
      have z2 := Nat.eq_of_beq_eq_true z2
      have z3 := Nat.eq_of_beq_eq_true z3
      have zt := Nat.eq_of_beq_eq_true zt
      obtain ⟨xs, m, rfl, rfl, hl, hlen, hget⟩ := DataW.trod_struct hu h
      have g1 := hget 0 a (by simp)
      have g2 := hget 1 b (by simp)
      have g3 := hget 2 c (by simp)
      match xs, hlen with
      | [x1, x2, x3], _ =>
        simp only [List.getElem?_cons_zero, List.getElem?_cons_succ] at g1 g2 g3
        rw [o1, z1] at g1
        rw [o2, z2] at g2
        rw [o3, z3] at g3
        obtain ⟨a1, a2, a3, a4⟩ := flat_trod (w' := w') (base' := base') (spare' := spare') (held' := held') k m a.type _ _ t1 g1
        obtain ⟨b1, b2, b3, b4⟩ := flat_trod (w' := w') (base' := base') (spare' := spare') (held' := held') k m b.type _ _ t2 g2
        obtain ⟨bb, c1, c2, c4⟩ := bool_trod (w' := w') (base' := base') (spare' := spare') (held' := held') (isBoolT_eq t3) g3
        have hcs : cs = (cs.drop 0).take n ++ ((cs.drop n).take n ++ (cs.drop (n + n)).take 1) := by
          rw [zt] at hl
          rw [List.drop_zero, ← List.drop_drop, show ((cs.drop n).drop n).take 1 = (cs.drop n).drop n from List.take_of_length_le (by simp only [List.length_drop]; omega), List.take_append_drop, List.take_append_drop]
        refine ⟨⟨(cs.drop 0).take n, (cs.drop n).take n, bb, by rw [c1] at hcs; exact hcs, a1, a3.trans z1, b1, b3.trans z2⟩, by simp [a2, b2, c2], ?_⟩
        have hm : ([a, b, c].mapM fun f => DataW.trod enc P w' base' spare' held' m f.type ((cs.drop f.offset).take (P.cellsOf f.type))) = some [x1, x2, x3] := by
          refine mapM_some_of_get _ _ (by simp) fun i f hf => ?_
          match i, hf with
          | 0, hf => simp at hf; subst hf; rw [o1, z1, a4]; rfl
          | 1, hf => simp at hf; subst hf; rw [o2, z2, b4]; rfl
          | 2, hf => simp at hf; subst hf; rw [o3, z3, c4]; rfl
        unfold DataW.trod
        rw [hu]
        simp [hl, hm]
    · cases hf
  · cases hf
end

theorem open_g {H : Type} {enc : TypeId × Value → H} {P : Program} {w : World} {r : Reach} {base b0 : Nat} {spare : Nat → Bool} {held : Bool} {t : TypeId} {v : Value} {d : DataW H} {ps : List MemPlace} (k n : Nat) (hf : gT P k t n = true) (ha : aggT P t = true)
    (hval : Value.okWide P w r b0 t v) (h : DataW.Trod enc P w base spare held t v d ps) :
    ∃ (c1 c2 : List Value) (b : Bool), v = .agg (c1 ++ (c2 ++ [Value.bool b])).toArray ∧ (∀ x ∈ c1, isU x) ∧ c1.length = n ∧ (∀ x ∈ c2, isU x) ∧ c2.length = n ∧ ps = [] ∧ ∀ (w' : World) (base' : Nat) (spare' : Nat → Bool) (held' : Bool), DataW.Trod enc P w' base' spare' held' t v d [] := by
  obtain ⟨cs, rfl⟩ : ∃ cs : Array Value, v = .agg cs := by
    unfold aggT at ha
    split at ha
    · rename_i fs hu; obtain ⟨cs, h1, _⟩ := okWide_struct hu hval; exact ⟨cs, h1⟩
    · rename_i n e hu; obtain ⟨cs, h1, _⟩ := okWide_array hu hval; exact ⟨cs, h1⟩
    · cases ha
  obtain ⟨fuel, h⟩ := h
  have h1 := fun (w' : World) (base' : Nat) (spare' : Nat → Bool) (held' : Bool) => g_trod (w' := w') (base' := base') (spare' := spare') (held' := held') hf h
  obtain ⟨⟨c1, c2, b, h2, h3, h4, h5, h6⟩, h7, _⟩ := h1 w base spare held
  simp only at h7
  subst h7
  exact ⟨c1, c2, b, by rw [← h2]; show Value.agg cs = Value.agg cs.toList.toArray; rw [Array.toArray_toList], h3, h4, h5, h6, rfl, fun w' base' spare' held' => ⟨fuel, (h1 w' base' spare' held').2.2⟩⟩
end Go.Ev

/- Whatever bytes are given, chirographlaw10.PointOnce says true: what is got of them, put again in short or in full, as it was, is the bytes. -/
set_option linter.unusedSimpArgs false
set_option linter.unusedVariables false
namespace Go.Proofs.Ytbejkhmdmojojaa
open Go.Ev Go.ChangeShapes Go.WideShapes Go.ChangeAt Go.RowKit
theorem once_p1 (l : List UInt8) (h : ok1 l) : sml1 ((gx1 l).val, (gy1 l).val, decide (inf1 l)) ∧ may1 ((gx1 l).val, (gy1 l).val, decide (inf1 l)) ∧ grp1 ((gx1 l).val, (gy1 l).val, decide (inf1 l)) := ⟨small_pt _ _ _, (once1 l h).1, (once1 l h).2.1⟩
theorem once_p2 (l : List UInt8) (h : ok2 l) : sml2 (nn (gx2 l), nn (gy2 l), decide (inf2 l)) ∧ may2 (nn (gx2 l), nn (gy2 l), decide (inf2 l)) ∧ grp2 (nn (gx2 l), nn (gy2 l), decide (inf2 l)) := ⟨small_pt2 _ _ _, (once2 l h).1, (once2 l h).2.1⟩
theorem same_str {a b : List UInt8} (h : a = b) : (!((ofL a).toList == (ofL b).toList)) = false := by rw [h]; simp
theorem put_s1 (l : List UInt8) (h : ok1 l) (hl : l.length = 48) : putL1 (ofP (gx1 l).val) (ofP (gy1 l).val) (decide (inf1 l)) true = l := by
  have e := (once1 l h).2.2.2
  rw [decide_eq_true hl] at e
  rw [ofP_val, ofP_val]; exact e
theorem put_l1 (l : List UInt8) (h : ok1 l) (hl : l.length = 96) : putL1 (ofP (gx1 l).val) (ofP (gy1 l).val) (decide (inf1 l)) false = l := by
  have e := (once1 l h).2.2.2
  rw [show decide (l.length = 48) = false from decide_eq_false (by omega)] at e
  rw [ofP_val, ofP_val]; exact e
theorem put_s2 (l : List UInt8) (h : ok2 l) (hl : l.length = 96) : putL2 (of2 (nn (gx2 l))) (of2 (nn (gy2 l))) (decide (inf2 l)) true = l := by
  have e := (once2 l h).2.2.2
  rw [decide_eq_true hl] at e
  rw [nn_of, nn_of]; exact e
theorem put_l2 (l : List UInt8) (h : ok2 l) (hl : l.length = 192) : putL2 (of2 (nn (gx2 l))) (of2 (nn (gy2 l))) (decide (inf2 l)) false = l := by
  have e := (once2 l h).2.2.2
  rw [show decide (l.length = 96) = false from decide_eq_false (by omega)] at e
  rw [nn_of, nn_of]; exact e
theorem len_of {l : List UInt8} {n : Nat} (h : l.length = n) : (((ofL l).size : Nat) : Int) = ((n : Nat) : Int) := by
  rw [show (ofL l).size = l.length from rfl, h]
theorem po_bb (l : List UInt8) (k1 k2 : Int) (h1 : cd1 l k1) (h2 : cd2 l k2) : Gives Try.prog 6 [.t (.v (.string (ofL l)))] (.v (.bool true)) :=
  fn_gives_at (P := Try.prog) (X := rulesX _) (env := [ePut1, eWide1, ePut2, eWide2, eGrp1, eGrp2, eAlive, eGot1 k1, eGot2 k2]) ⟨ePut1_ok, eWide1_ok, ePut2_ok, eWide2_ok, eGrp1_ok, eGrp2_ok, eAlive_ok, eGot1_ok k1, eGot2_ok k2, trivial⟩ Try.func6 0 (oL [(2, wO 1), (10, wF), (12, wO 1), (20, wF)]) (by kernel_rfl) ⟨_, rfl⟩
      (And.intro (show decide (k2 = (0 : Int)) = false from decide_eq_false h2.1) 
      (And.intro (show cd2 l k2 from h2) 
      (And.intro (show decide (k1 = (0 : Int)) = false from decide_eq_false h1.1) 
      (And.intro (show cd1 l k1 from h1) trivial))))
theorem po_sb (l : List UInt8) (k1 k2 : Int) (h1 : ok1 l) (hl1 : l.length = 48) (h2 : cd2 l k2) : Gives Try.prog 6 [.t (.v (.string (ofL l)))] (.v (.bool true)) :=
  fn_gives_at (P := Try.prog) (X := rulesX _) (env := [ePut1, eWide1, ePut2, eWide2, eGrp1, eGrp2, eAlive, eGot1 k1, eGot2 k2]) ⟨ePut1_ok, eWide1_ok, ePut2_ok, eWide2_ok, eGrp1_ok, eGrp2_ok, eAlive_ok, eGot1_ok k1, eGot2_ok k2, trivial⟩ Try.func6 0 (oL [(2, wO 0), (12, wO 0), (19, { ch := 1, hi := fun _ => 48 }), (26, wF), (30, wO 0), (34, wO 1), (42, wF)]) (by kernel_rfl) ⟨_, rfl⟩
      (And.intro (show decide (k2 = (0 : Int)) = false from decide_eq_false h2.1) 
      (And.intro (show cd2 l k2 from h2) 
      (And.intro (show sml1 ((gx1 l).val, (gy1 l).val, decide (inf1 l)) ∧ may1 ((gx1 l).val, (gy1 l).val, decide (inf1 l)) ∧ grp1 ((gx1 l).val, (gy1 l).val, decide (inf1 l)) from once_p1 l h1) 
      (And.intro (show (!((ofL (putL1 (ofP (gx1 l).val) (ofP (gy1 l).val) (decide (inf1 l)) true)).toList == (ofL l).toList)) = false from same_str (put_s1 l h1 hl1)) 
      (And.intro (show (((ofL l).size : Nat) : Int) = ((48 : Nat) : Int) from len_of hl1) 
      (And.intro (show sml1 ((gx1 l).val, (gy1 l).val, decide (inf1 l)) ∧ may1 ((gx1 l).val, (gy1 l).val, decide (inf1 l)) ∧ grp1 ((gx1 l).val, (gy1 l).val, decide (inf1 l)) from once_p1 l h1) 
      (And.intro (show ok1 l from h1) trivial)))))))
theorem po_lb (l : List UInt8) (k1 k2 : Int) (h1 : ok1 l) (hl1 : l.length = 96) (h2 : cd2 l k2) : Gives Try.prog 6 [.t (.v (.string (ofL l)))] (.v (.bool true)) :=
  fn_gives_at (P := Try.prog) (X := rulesX _) (env := [ePut1, eWide1, ePut2, eWide2, eGrp1, eGrp2, eAlive, eGot1 k1, eGot2 k2]) ⟨ePut1_ok, eWide1_ok, ePut2_ok, eWide2_ok, eGrp1_ok, eGrp2_ok, eAlive_ok, eGot1_ok k1, eGot2_ok k2, trivial⟩ Try.func6 0 (oL [(2, wO 0), (12, wO 0), (19, { ch := 1, hi := fun _ => 96 }), (22, wO 0), (33, wF), (37, wO 0), (41, wO 1), (49, wF)]) (by kernel_rfl) ⟨_, rfl⟩
      (And.intro (show decide (k2 = (0 : Int)) = false from decide_eq_false h2.1) 
      (And.intro (show cd2 l k2 from h2) 
      (And.intro (show sml1 ((gx1 l).val, (gy1 l).val, decide (inf1 l)) ∧ may1 ((gx1 l).val, (gy1 l).val, decide (inf1 l)) ∧ grp1 ((gx1 l).val, (gy1 l).val, decide (inf1 l)) from once_p1 l h1) 
      (And.intro (show (!((ofL (putL1 (ofP (gx1 l).val) (ofP (gy1 l).val) (decide (inf1 l)) false)).toList == (ofL l).toList)) = false from same_str (put_l1 l h1 hl1)) 
      (And.intro (show sml1 ((gx1 l).val, (gy1 l).val, decide (inf1 l)) ∧ may1 ((gx1 l).val, (gy1 l).val, decide (inf1 l)) ∧ grp1 ((gx1 l).val, (gy1 l).val, decide (inf1 l)) from once_p1 l h1) 
      (And.intro (show (((ofL l).size : Nat) : Int) = ((96 : Nat) : Int) from len_of hl1) 
      (And.intro (show sml1 ((gx1 l).val, (gy1 l).val, decide (inf1 l)) ∧ may1 ((gx1 l).val, (gy1 l).val, decide (inf1 l)) ∧ grp1 ((gx1 l).val, (gy1 l).val, decide (inf1 l)) from once_p1 l h1) 
      (And.intro (show ok1 l from h1) trivial))))))))
theorem po_bs (l : List UInt8) (k1 k2 : Int) (h1 : cd1 l k1) (h2 : ok2 l) (hl2 : l.length = 96) : Gives Try.prog 6 [.t (.v (.string (ofL l)))] (.v (.bool true)) :=
  fn_gives_at (P := Try.prog) (X := rulesX _) (env := [ePut1, eWide1, ePut2, eWide2, eGrp1, eGrp2, eAlive, eGot1 k1, eGot2 k2]) ⟨ePut1_ok, eWide1_ok, ePut2_ok, eWide2_ok, eGrp1_ok, eGrp2_ok, eAlive_ok, eGot1_ok k1, eGot2_ok k2, trivial⟩ Try.func6 0 (oL [(2, wO 1), (10, wF), (12, wO 0), (22, wO 0), (29, { ch := 1, hi := fun _ => 96 }), (36, wF), (40, wO 0)]) (by kernel_rfl) ⟨_, rfl⟩
      (And.intro (show sml2 (nn (gx2 l), nn (gy2 l), decide (inf2 l)) ∧ may2 (nn (gx2 l), nn (gy2 l), decide (inf2 l)) ∧ grp2 (nn (gx2 l), nn (gy2 l), decide (inf2 l)) from once_p2 l h2) 
      (And.intro (show (!((ofL (putL2 (of2 (nn (gx2 l))) (of2 (nn (gy2 l))) (decide (inf2 l)) true)).toList == (ofL l).toList)) = false from same_str (put_s2 l h2 hl2)) 
      (And.intro (show (((ofL l).size : Nat) : Int) = ((96 : Nat) : Int) from len_of hl2) 
      (And.intro (show sml2 (nn (gx2 l), nn (gy2 l), decide (inf2 l)) ∧ may2 (nn (gx2 l), nn (gy2 l), decide (inf2 l)) ∧ grp2 (nn (gx2 l), nn (gy2 l), decide (inf2 l)) from once_p2 l h2) 
      (And.intro (show ok2 l from h2) 
      (And.intro (show decide (k1 = (0 : Int)) = false from decide_eq_false h1.1) 
      (And.intro (show cd1 l k1 from h1) trivial)))))))
theorem po_bl (l : List UInt8) (k1 k2 : Int) (h1 : cd1 l k1) (h2 : ok2 l) (hl2 : l.length = 192) : Gives Try.prog 6 [.t (.v (.string (ofL l)))] (.v (.bool true)) :=
  fn_gives_at (P := Try.prog) (X := rulesX _) (env := [ePut1, eWide1, ePut2, eWide2, eGrp1, eGrp2, eAlive, eGot1 k1, eGot2 k2]) ⟨ePut1_ok, eWide1_ok, ePut2_ok, eWide2_ok, eGrp1_ok, eGrp2_ok, eAlive_ok, eGot1_ok k1, eGot2_ok k2, trivial⟩ Try.func6 0 (oL [(2, wO 1), (10, wF), (12, wO 0), (22, wO 0), (29, { ch := 1, hi := fun _ => 192 }), (32, wO 0), (43, wF), (47, wO 0)]) (by kernel_rfl) ⟨_, rfl⟩
      (And.intro (show sml2 (nn (gx2 l), nn (gy2 l), decide (inf2 l)) ∧ may2 (nn (gx2 l), nn (gy2 l), decide (inf2 l)) ∧ grp2 (nn (gx2 l), nn (gy2 l), decide (inf2 l)) from once_p2 l h2) 
      (And.intro (show (!((ofL (putL2 (of2 (nn (gx2 l))) (of2 (nn (gy2 l))) (decide (inf2 l)) false)).toList == (ofL l).toList)) = false from same_str (put_l2 l h2 hl2)) 
      (And.intro (show sml2 (nn (gx2 l), nn (gy2 l), decide (inf2 l)) ∧ may2 (nn (gx2 l), nn (gy2 l), decide (inf2 l)) ∧ grp2 (nn (gx2 l), nn (gy2 l), decide (inf2 l)) from once_p2 l h2) 
      (And.intro (show (((ofL l).size : Nat) : Int) = ((192 : Nat) : Int) from len_of hl2) 
      (And.intro (show sml2 (nn (gx2 l), nn (gy2 l), decide (inf2 l)) ∧ may2 (nn (gx2 l), nn (gy2 l), decide (inf2 l)) ∧ grp2 (nn (gx2 l), nn (gy2 l), decide (inf2 l)) from once_p2 l h2) 
      (And.intro (show ok2 l from h2) 
      (And.intro (show decide (k1 = (0 : Int)) = false from decide_eq_false h1.1) 
      (And.intro (show cd1 l k1 from h1) trivial))))))))
theorem po_ls (l : List UInt8) (k1 k2 : Int) (h1 : ok1 l) (hl1 : l.length = 96) (h2 : ok2 l) (hl2 : l.length = 96) : Gives Try.prog 6 [.t (.v (.string (ofL l)))] (.v (.bool true)) :=
  fn_gives_at (P := Try.prog) (X := rulesX _) (env := [ePut1, eWide1, ePut2, eWide2, eGrp1, eGrp2, eAlive, eGot1 k1, eGot2 k2]) ⟨ePut1_ok, eWide1_ok, ePut2_ok, eWide2_ok, eGrp1_ok, eGrp2_ok, eAlive_ok, eGot1_ok k1, eGot2_ok k2, trivial⟩ Try.func6 0 (oL [(2, wO 0), (12, wO 0), (19, { ch := 1, hi := fun _ => 96 }), (22, wO 0), (33, wF), (37, wO 0), (41, wO 0), (51, wO 0), (58, { ch := 1, hi := fun _ => 96 }), (65, wF), (69, wO 0)]) (by kernel_rfl) ⟨_, rfl⟩
      (And.intro (show sml2 (nn (gx2 l), nn (gy2 l), decide (inf2 l)) ∧ may2 (nn (gx2 l), nn (gy2 l), decide (inf2 l)) ∧ grp2 (nn (gx2 l), nn (gy2 l), decide (inf2 l)) from once_p2 l h2) 
      (And.intro (show (!((ofL (putL2 (of2 (nn (gx2 l))) (of2 (nn (gy2 l))) (decide (inf2 l)) true)).toList == (ofL l).toList)) = false from same_str (put_s2 l h2 hl2)) 
      (And.intro (show (((ofL l).size : Nat) : Int) = ((96 : Nat) : Int) from len_of hl2) 
      (And.intro (show sml2 (nn (gx2 l), nn (gy2 l), decide (inf2 l)) ∧ may2 (nn (gx2 l), nn (gy2 l), decide (inf2 l)) ∧ grp2 (nn (gx2 l), nn (gy2 l), decide (inf2 l)) from once_p2 l h2) 
      (And.intro (show ok2 l from h2) 
      (And.intro (show sml1 ((gx1 l).val, (gy1 l).val, decide (inf1 l)) ∧ may1 ((gx1 l).val, (gy1 l).val, decide (inf1 l)) ∧ grp1 ((gx1 l).val, (gy1 l).val, decide (inf1 l)) from once_p1 l h1) 
      (And.intro (show (!((ofL (putL1 (ofP (gx1 l).val) (ofP (gy1 l).val) (decide (inf1 l)) false)).toList == (ofL l).toList)) = false from same_str (put_l1 l h1 hl1)) 
      (And.intro (show sml1 ((gx1 l).val, (gy1 l).val, decide (inf1 l)) ∧ may1 ((gx1 l).val, (gy1 l).val, decide (inf1 l)) ∧ grp1 ((gx1 l).val, (gy1 l).val, decide (inf1 l)) from once_p1 l h1) 
      (And.intro (show (((ofL l).size : Nat) : Int) = ((96 : Nat) : Int) from len_of hl1) 
      (And.intro (show sml1 ((gx1 l).val, (gy1 l).val, decide (inf1 l)) ∧ may1 ((gx1 l).val, (gy1 l).val, decide (inf1 l)) ∧ grp1 ((gx1 l).val, (gy1 l).val, decide (inf1 l)) from once_p1 l h1) 
      (And.intro (show ok1 l from h1) trivial)))))))))))
theorem pointOnce_list (l : List UInt8) : Gives Try.prog 6 [.t (.v (.string (ofL l)))] (.v (.bool true)) := by
  by_cases h1 : ok1 l
  · have e1 := (once1 l h1).2.2.1
    by_cases h2 : ok2 l
    · have e2 := (once2 l h2).2.2.1
      have e3 : l.length = 96 := by omega
      exact po_ls l 0 0 h1 e3 h2 e3
    · obtain ⟨k2, h2⟩ := bad2 l h2
      rcases e1 with e | e
      · exact po_sb l 0 k2 h1 e h2
      · exact po_lb l 0 k2 h1 e h2
  · obtain ⟨k1, h1⟩ := bad1 l h1
    by_cases h2 : ok2 l
    · rcases (once2 l h2).2.2.1 with e | e
      · exact po_bs l k1 0 h1 h2 e
      · exact po_bl l k1 0 h1 h2 e
    · obtain ⟨k2, h2⟩ := bad2 l h2
      exact po_bb l k1 k2 h1 h2
theorem pointOnce_gives (s : ByteArray) {p : Prop} (_ : p) : Gives Try.prog 6 [.t (.v (.string s))] (.v (.bool true)) := by
  have h := pointOnce_list s.data.toList
  rwa [show ofL s.data.toList = s from by unfold ofL; rw [Array.toArray_toList]] at h
theorem Try.own : ownKnob Try.prog.godebug = none := by kernel_rfl

set_option maxRecDepth 100000 in
theorem pointOnce_lifted (os : Os) (started : os.Started) (H : Type) (enc : TypeId × Value → H) :
    ReturnsInHanded {} Try.checked os 6 .any (Rows.pointOnceSpec.pre6 enc Try.prog Try.f6 Rows.pointOnceRow.domain false) (Rows.pointOnceSpec.post enc Try.prog Try.f6 false true false false) := by
  refine returnsInHanded_of_change (C := Try.checked) Try.own started (by kernel_rfl) Try.func6
    (ChangeSpec.witness6 (enc := enc) (C := Try.checked) false ⟨#[], #[.string ByteArray.empty], []⟩ 8 (by kernel_rfl) (by kernel_rfl) (by kernel_rfl) (by kernel_rfl)) ?_
  intro W base args ds gs before hval0 hW _ _
  have hval : ∀ (j : Nat) t v, Try.f6.params[j]? = some t → args[j]? = some v → Value.okWide Try.prog W .any base t v := hval0
  have hW' := hW
  obtain ⟨p, q, hA0, hV, rfl, _, _⟩ := hW
  have hA : DataW.TrodAll enc Try.prog W 0 (fun _ => true) true Try.f6.params.toList args.toList ds p := hA0
  rw [Try.params6] at hA hval
  obtain ⟨v0, d0, rfl, rfl, h0⟩ := trodAll_one hA
  obtain ⟨rfl, rfl⟩ := trodVars_none hV
  obtain ⟨x0, rfl, rfl, rfl, b0⟩ := Go.ChangeMaps.open_string Try.underlying9 (hval 0 _ v0 rfl rfl) h0
  clear hA0 hval0
  simp only [List.append_nil] at hW'
  obtain ⟨v, hv, hrun⟩ := pointOnce_gives x0 b0
  simp only [AV.val?, Option.some.injEq] at hv
  subst hv
  refine (hrun W [_] ⟨rfl, trivial⟩).mono fun e W' ⟨he, hb⟩ => ?_
  subst he
  exact ⟨_, rfl, _, _, _, [], [], [], hW', trodAll_mk1 (shut_bool Try.underlying4 true), trodAll_mk1 (Go.ChangeMaps.shut_string Try.underlying9 b0), rfl, hb.frame _, fun h => by cases h⟩

theorem pointOnce_holds : Rows.PointOnceSaid :=
  OpenClaim.holds_of_wide 6 Try.f6 rfl rfl rfl rfl rfl rfl rfl ⟨rfl, rfl, rfl, rfl, rfl⟩ rfl rfl rfl rfl rfl (by kernel_rfl) Try.func6 (by kernel_rfl)
    (of_decide_eq_true (by kernel_rfl)) (by unfold Func.isWrapper; first | (rw [if_pos (by decide +kernel)]; kernel_rfl) | (rw [if_neg (by decide +kernel)]; exact ⟨rfl, rfl⟩))
    (fun os started H enc _ => pointOnce_lifted os started H enc)
end Go.Proofs.Ytbejkhmdmojojaa
