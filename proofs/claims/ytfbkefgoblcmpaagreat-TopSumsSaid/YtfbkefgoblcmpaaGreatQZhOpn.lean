/- Pruned: ZhOpn. -/
import Derived.Test.YtfbkefgoblcmpaaGreatQE2
import Derived.ProofKit
import Derived.OpenShut
import Derived.DataShut
set_option linter.unusedSimpArgs false
set_option linter.unusedVariables false
namespace Go.Ev
open Go.ChangeShapes Go.WideShapes Go.ChangeAt Go.RowKit
def Iu (P : Program) : List Field -> Nat -> Nat -> Bool
 | [], a, b => Nat.beq a b
 | f :: l, a, b => Nat.beq f.offset a && Iu P l (a + P.cellsOf f.type) b
def DO (P : Program) : Nat -> TypeId -> Bool
 | 0, _ => false
 | f + 1, t =>
  match P.underlying t with
  | some (.int .u64) => Nat.beq (P.cellsOf t) 1
  | some (.struct fs) => Iu P fs.toList 0 (P.cellsOf t) && fs.toList.all fun g => DO P f g.type
  | some (.array n e) => Nat.beq (P.cellsOf t) (n * P.cellsOf e) && DO P f e
  | _ => false
def isU (v : Value) : Prop := ∃ n : Nat, n < 18446744073709551616 /\ v = .int .u64 (n : Int)
theorem Bv {P : Program} : ∀ (l : List Field) (a b j : Nat), Iu P l a b = true -> a <= j -> j < b -> ∃ (i : Nat) (f : Field), l[i]? = some f /\ f.offset <= j /\ j < f.offset + P.cellsOf f.type
 | [], a, b, j, h, h1, h2 => by
  have := Nat.eq_of_beq_eq_true h
  omega
 | f :: l, a, b, j, h, h1, h2 => by
  simp only [Iu, Bool.and_eq_true] at h
  have e := Nat.eq_of_beq_eq_true h.1
  by_cases hj : j < a + P.cellsOf f.type
  ·exact ⟨0, f, rfl, by omega, by omega⟩
  ·obtain ⟨i, g, h3, h4⟩ := Bv l _ b j h.2 (by omega) h2
   exact ⟨i + 1, g, by simpa using h3, h4⟩
section
variable {H : Type} {enc : TypeId × Value -> H} {P : Program} {w w' : World} {base base' : Nat} {spare spare' : Nat -> Bool} {held held' : Bool}
theorem Ah : ∀ (k fuel : Nat) (t : TypeId) (cs : List Value) (x : DataW H × List MemPlace), DO P k t = true -> DataW.trod enc P w base spare held fuel t cs = some x →
  (∀ v ∈ cs, isU v) /\ x.2 = [] /\ cs.length = P.cellsOf t /\ DataW.trod enc P w' base' spare' held' fuel t cs = some x
 | 0, _, _, _, _, hf, _ => by simp [DO] at hf
 | k + 1, fuel, t, cs, x, hf, h => by
  unfold DO at hf
  split at hf
  ·rename_i hu
   obtain ⟨n, rfl, rfl, hw⟩ := DataW.trod_int hu h
   have hb := bounds_u64 hw
   refine ⟨fun v hv => ?_, rfl, by simp [Nat.eq_of_beq_eq_true hf], ?_⟩
   ·simp only [List.mem_singleton] at hv
    subst hv
    exact ⟨n.toNat, by omega, by congr 1; omega⟩
   ·cases fuel with
    | zero => simp [DataW.trod] at h
    | succ m => simp [DataW.trod, hu, hw]
  ·rename_i fs hu
   simp only [Bool.and_eq_true, List.all_eq_true] at hf
   obtain ⟨hrow, hall⟩ := hf
   obtain ⟨xs, m, rfl, rfl, hl, hlen, hget⟩ := DataW.trod_struct hu h
   have key : ∀ (i : Nat) (f : Field), fs[i]? = some f -> ∃ y, xs[i]? = some y /\ (∀ v ∈ (cs.drop f.offset).take (P.cellsOf f.type), isU v) /\ y.2 = [] /\ DataW.trod enc P w' base' spare' held' m f.type ((cs.drop f.offset).take (P.cellsOf f.type)) = some y := by
    intro i f hi
    have h1 := hget i f hi
    have hlt : i < fs.size := (Array.getElem?_eq_some_iff.1 hi).1
    obtain ⟨y, hy⟩ : ∃ y, xs[i]? = some y := ⟨xs[i]'(by omega), List.getElem?_eq_getElem _⟩
    rw [hy] at h1
    obtain ⟨a1, a2, a3, a4⟩ := Ah k m f.type _ y (hall f (by
     have := Array.getElem?_eq_some_iff.1 hi
     obtain ⟨_, e⟩ := this
     rw [← e]; simp)) h1
    exact ⟨y, hy, a1, a2, a4⟩
   refine ⟨fun v hv => ?_, ?_, hl, ?_⟩
   ·obtain ⟨j, hj, rfl⟩ := List.mem_iff_getElem.1 hv
    obtain ⟨i, f, h1, h2, h3⟩ := Bv fs.toList 0 _ j hrow (Nat.zero_le _) (by omega)
    obtain ⟨y, _, h4, _⟩ := key i f (by simpa using h1)
    refine h4 _ (List.mem_iff_getElem?.2 ⟨j - f.offset, ?_⟩)
    rw [List.getElem?_take, if_pos (by omega), List.getElem?_drop, show f.offset + (j - f.offset) = j by omega]
    exact List.getElem?_eq_getElem hj
   ·simp only [List.flatMap_eq_nil_iff]
    intro y hy
    obtain ⟨i, hi, rfl⟩ := List.mem_iff_getElem.1 hy
    obtain ⟨z, h1, _, h3, _⟩ := key i fs[i] (by simp [hlen ▸ hi])
    rw [List.getElem?_eq_getElem hi] at h1
    simp only [oi0] at h1
    rw [h1]; exact h3
   ·have hm : (fs.toList.mapM fun f => DataW.trod enc P w' base' spare' held' m f.type ((cs.drop f.offset).take (P.cellsOf f.type))) = some xs := by
     refine mapM_some_of_get _ _ (by simpa using hlen) fun i f hf => ?_
     obtain ⟨z, h1, _, _, h4⟩ := key i f (by simpa using hf)
     rw [h1]; exact h4
    unfold DataW.trod
    rw [hu]
    simp [hl, hm]
  ·rename_i n e hu
   simp only [Bool.and_eq_true] at hf
   obtain ⟨hrow, hall⟩ := hf
   have hsz := Nat.eq_of_beq_eq_true hrow
   obtain ⟨xs, m, rfl, rfl, hl, hlen, hget⟩ := DataW.trod_array hu h
   have key : ∀ (i : Nat), i < n -> ∃ y, xs[i]? = some y /\ (∀ v ∈ (cs.drop (i * P.cellsOf e)).take (P.cellsOf e), isU v) /\ y.2 = [] /\ DataW.trod enc P w' base' spare' held' m e ((cs.drop (i * P.cellsOf e)).take (P.cellsOf e)) = some y := by
    intro i hi
    have h1 := hget i hi
    obtain ⟨y, hy⟩ : ∃ y, xs[i]? = some y := ⟨xs[i]'(by omega), List.getElem?_eq_getElem _⟩
    rw [hy] at h1
    obtain ⟨a1, a2, a3, a4⟩ := Ah k m e _ y hall h1
    exact ⟨y, hy, a1, a2, a4⟩
   refine ⟨fun v hv => ?_, ?_, hl, ?_⟩
   ·obtain ⟨j, hj, rfl⟩ := List.mem_iff_getElem.1 hv
    have hj' : j < n * P.cellsOf e := by omega
    have hpos : 0 < P.cellsOf e := by
     rcases Nat.eq_zero_or_pos (P.cellsOf e) with h0 | h0
     ·rw [h0] at hj'; omega
     ·exact h0
    have hq : j / P.cellsOf e < n := Nat.div_lt_of_lt_mul (by rw [Nat.mul_comm]; exact hj')
    obtain ⟨y, _, h4, _⟩ := key (j / P.cellsOf e) hq
    have hdm := Nat.div_add_mod j (P.cellsOf e)
    have hml := Nat.mod_lt j hpos
    refine h4 _ (List.mem_iff_getElem?.2 ⟨j % P.cellsOf e, ?_⟩)
    rw [List.getElem?_take, if_pos hml, List.getElem?_drop, show j / P.cellsOf e * P.cellsOf e + j % P.cellsOf e = j by rw [Nat.mul_comm]; exact hdm]
    exact List.getElem?_eq_getElem hj
   ·simp only [List.flatMap_eq_nil_iff]
    intro y hy
    obtain ⟨i, hi, rfl⟩ := List.mem_iff_getElem.1 hy
    obtain ⟨z, h1, _, h3, _⟩ := key i (by omega)
    rw [List.getElem?_eq_getElem hi] at h1
    simp only [oi0] at h1
    rw [h1]; exact h3
   ·have hm : ((List.range n).mapM fun i => DataW.trod enc P w' base' spare' held' m e ((cs.drop (i * P.cellsOf e)).take (P.cellsOf e))) = some xs := by
     refine mapM_some_of_get _ _ (by simpa using hlen) fun i j hj => ?_
     have hj2 : j = i /\ i < n := by
      have := List.getElem?_eq_some_iff.1 hj
      obtain ⟨h1, h2⟩ := this
      simp at h1 h2
      exact ⟨h2.symm, h1⟩
     obtain ⟨rfl, hi⟩ := hj2
     obtain ⟨z, h1, _, _, h4⟩ := key j hi
     rw [h1]; exact h4
    unfold DataW.trod
    rw [hu]
    simp [hl, hm]
  ·cases hf
end
theorem Fa {P : Program} {w : World} {r : Reach} {base n : Nat} {t e : TypeId} {v : Value} (ht : P.underlying t = some (.array n e)) (h : Value.okWide P w r base t v) : ∃ cs, v = .agg cs /\ cs.size = P.cellsOf t := by
 simp only [Value.okWide, ht] at h
 obtain ⟨cs, h1, h2, _⟩ := h
 exact ⟨cs, h1, h2⟩
def Zf (P : Program) (t : TypeId) : Bool := match P.underlying t with | some (.struct _) => true | some (.array _ _) => true | _ => false
theorem Lb {H : Type} {enc : TypeId × Value -> H} {P : Program} {w : World} {r : Reach} {base b0 : Nat} {spare : Nat -> Bool} {held : Bool} {t : TypeId} {v : Value} {d : DataW H} {ps : List MemPlace} (k : Nat) (hf : DO P k t = true) (ha : Zf P t = true)
  (hval : Value.okWide P w r b0 t v) (h : DataW.Trod enc P w base spare held t v d ps) :
  ∃ cs : List Value, v = .agg cs.toArray /\ (∀ x ∈ cs, isU x) /\ cs.length = P.cellsOf t /\ ps = [] /\ ∀ (w' : World) (base' : Nat) (spare' : Nat -> Bool) (held' : Bool), DataW.Trod enc P w' base' spare' held' t v d [] := by
 obtain ⟨cs, rfl⟩ : ∃ cs : Array Value, v = .agg cs := by
  unfold Zf at ha
  split at ha
  ·rename_i fs hu; obtain ⟨cs, h1, _⟩ := okWide_struct hu hval; exact ⟨cs, h1⟩
  ·rename_i n e hu; obtain ⟨cs, h1, _⟩ := Fa hu hval; exact ⟨cs, h1⟩
  ·cases ha
 obtain ⟨fuel, h⟩ := h
 have h1 := fun (w' : World) (base' : Nat) (spare' : Nat -> Bool) (held' : Bool) => Ah (w' := w') (base' := base') (spare' := spare') (held' := held') k fuel t _ _ hf h
 obtain ⟨h2, h3, h4, _⟩ := h1 w base spare held
 simp only at h3
 subst h3
 exact ⟨cs.toList, by simp, h2, h4, rfl, fun w' base' spare' held' => ⟨fuel, (h1 w' base' spare' held').2.2.2⟩⟩
theorem EI : ∀ (n : Nat) (cs : List Value), (∀ v ∈ cs, isU v) -> cs.length = n -> ∃ x, x < 18446744073709551616 ^ n /\ cs = limbs n x
 | 0, cs, _, hl => ⟨0, by decide, by simpa [limbs] using hl⟩
 | n + 1, [], _, hl => by simp at hl
 | n + 1, v :: cs, hv, hl => by
  obtain ⟨x, h1, h2⟩ := EI n cs (fun u hu => hv u (by simp [hu])) (by simpa using hl)
  obtain ⟨a, h3, h4⟩ := hv v (by simp)
  refine ⟨a + 18446744073709551616 * x, ?_, ?_⟩
  ·rw [Nat.pow_succ]; omega
  ·have e1 : (a + 18446744073709551616 * x) % 18446744073709551616 = a := by omega
   have e2 : (a + 18446744073709551616 * x) / 18446744073709551616 = x := by omega
   simp only [limbs, e1, e2]
   rw [h4, h2]
end Go.Ev
