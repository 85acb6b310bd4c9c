/- Whatever proof, verifier's values, public values, circuit and key are given, chirographlaw23.FormatBack says true: what is written of them is got again from its bytes. -/
import Derived.Test.YtokjhbmmdmeafaaGreatQZhOpn
import Derived.Test.YtokjhbmmdmeafaaGreatQGa
import Derived.Deep.Slices
import Derived.Carry
import Derived.HandedShaped
import Derived.Test.YtokjhbmmdmeafaaGreatQGf
import Derived.Test.YtokjhbmmdmeafaaGreatQGg
import Derived.Test.YtokjhbmmdmeafaaGreatQHa
import Derived.ChangeMaps5
import Derived.Test.YtokjhbmmdmeafaaGreatRows
import Derived.Test.YtokjhbmmdmeafaaGreatQGv
set_option linter.unusedSimpArgs false
set_option linter.unusedVariables false
namespace Go.Ev
open Go.ChangeShapes Go.WideShapes Go.ChangeAt Go.RowKit
inductive Sh where
 | k (x : K)
 | s (ks : List K)
def Sh.k? : Sh -> Option K
 | .k x => some x
 | .s _ => none
def plain : List Sh -> Option (List K)
 | [] => some []
 | a :: l => match a.k?, plain l with | some x, some r => some (x :: r) | _, _ => none
def repS : Nat -> List Sh -> List Sh
 | 0, _ => []
 | n + 1, a => a ++ repS n a
theorem Bi : ∀ n a, (repS n a).length = n * a.length
 | 0, a => by simp [repS]
 | n + 1, a => by simp [repS, Bi n a, Nat.add_mul, Nat.add_comm]
def shF (P : Program) (sh : TypeId -> Option (List Sh)) : List Field -> Nat -> Option (List Sh)
 | [], _ => some []
 | f :: fs, o =>
  match Nat.beq f.offset o, sh f.type with
  | true, some a => (match Nat.beq a.length (P.cellsOf f.type), shF P sh fs (o + a.length) with | true, some r => some (a ++ r) | _, _ => none)
  | _, _ => none
def shT (P : Program) : Nat -> TypeId -> Option (List Sh)
 | 0, _ => none
 | d + 1, t =>
  match P.underlying t with
  | some .bool => some [.k .b]
  | some (.int q) => some [.k (.i q)]
  | some (.array n e) =>
   match shT P d e with
   | some a => (match Nat.beq a.length (P.cellsOf e), Nat.beq (n * a.length) (P.cellsOf t) with | true, true => some (repS n a) | _, _ => none)
   | none => none
  | some (.struct fs) =>
   match shF P (shT P d) fs.toList 0 with
   | some a => (match Nat.beq a.length (P.cellsOf t) with | true => some a | false => none)
   | none => none
  | some (.slice e) =>
   match shT P d e with
   | some a => (match Nat.beq a.length (P.cellsOf e), plain a with | true, some ks => some [.s ks] | _, _ => none)
   | none => none
  | _ => none
def SlIs (w : World) (v : Value) (rows : List (List Value)) : Prop :=
 (v = .slice none 0 0 /\ rows = []) ∨ ∃ a cap, v = .slice (some a) rows.length cap /\ rows.length <= cap /\ cap <= 9223372036854775807 /\ ∀ j x, rows.flatten[j]? = some x -> w.cell? (a.add j) = some x
def fit1 (w : World) (v : Value) : Sh -> Prop
 | .k x => fitK v x
 | .s ks => ∃ rows : List (List Value), (∀ c, c ∈ rows -> Fit c ks) /\ SlIs w v rows
def qA (w : World) : List Value -> List Sh -> Prop
 | [], [] => True
 | v :: vs, s :: ss => fit1 w v s /\ qA w vs ss
 | _, _ => False
theorem qA.append {w : World} : ∀ {a b : List Value} {s t : List Sh}, qA w a s -> qA w b t -> qA w (a ++ b) (s ++ t)
 | [], b, [], t, _, h => h
 | v :: a, b, s :: ss, t, h, h' => ⟨h.1, h.2.append h'⟩
 | [], _, _ :: _, _, h, _ => h.elim
 | _ :: _, _, [], _, h, _ => h.elim
theorem qA.plain {w : World} : ∀ {a : List Value} {s : List Sh} {ks : List K}, qA w a s -> Go.Ev.plain s = some ks -> Fit a ks
 | [], [], ks, _, h => by simp only [Go.Ev.plain, oi0] at h; subst h; trivial
 | v :: a, s :: ss, ks, hf, h => by
  simp only [Go.Ev.plain] at h
  split at h
  ·rename_i x r h1 h2
   simp only [oi0] at h; subst h
   cases s with
   | k y => simp only [Sh.k?, oi0] at h1; subst h1; exact ⟨hf.1, hf.2.plain h2⟩
   | s _ => simp [Sh.k?] at h1
  ·cases h
 | [], _ :: _, _, h, _ => h.elim
 | _ :: _, [], _, h, _ => h.elim
theorem Bv {α : Type} {k : Nat} : ∀ (rows : List (List α)) (q : Nat) (x : α), (∀ c, c ∈ rows -> c.length = k) -> rows.flatten[q]? = some x -> ∃ i j row, rows[i]? = some row /\ row[j]? = some x /\ q = i * k + j
 | [], q, x, _, h => by simp at h
 | r :: rows, q, x, hl, h => by
  have hr : r.length = k := hl r (by simp)
  rw [List.flatten_cons] at h
  by_cases hq : q < r.length
  ·rw [List.getElem?_append_left hq] at h
   exact ⟨0, q, r, rfl, h, by omega⟩
  ·rw [List.getElem?_append_right (by omega)] at h
   obtain ⟨i, j, row, h1, h2, h3⟩ := Bv rows _ x (fun c hc => hl c (by simp [hc])) h
   refine ⟨i + 1, j, row, by simpa using h1, h2, ?_⟩
   rw [Nat.add_mul, Nat.one_mul]; omega
section
variable {H : Type} {enc : TypeId × Value -> H} {P : Program} {w : World} {base : Nat} {spare : Nat -> Bool} {held : Bool}
theorem HL {sh : TypeId -> Option (List Sh)} {cs : List Value} : ∀ (fs : List Field) (o : Nat) (r : List Sh), shF P sh fs o = some r →
  (∀ f, f ∈ fs -> ∀ a, sh f.type = some a -> a.length = P.cellsOf f.type -> qA w ((cs.drop f.offset).take (P.cellsOf f.type)) a) -> qA w ((cs.drop o).take r.length) r
 | [], o, r, h, _ => by simp only [shF, oi0] at h; subst h; simp [qA]
 | f :: fs, o, r, h, hf => by
  simp only [shF] at h
  split at h
  ·rename_i a ho ha
   split at h
   ·rename_i r' hl hr
    simp only [oi0] at h; subst h
    have ho := Nat.eq_of_beq_eq_true ho
    have hl := Nat.eq_of_beq_eq_true hl
    have h1 := hf f (by simp) a ha hl
    rw [ho, ← hl] at h1
    have h2 := HL fs _ _ hr (fun g hg => hf g (by simp [hg]))
    rw [List.length_append, List.take_add, List.drop_drop]
    exact h1.append h2
   ·cases h
  ·cases h
theorem EL {a : List Sh} {cs : List Value} : ∀ (n o : Nat), (∀ i, i < n -> qA w ((cs.drop (o + i * a.length)).take a.length) a) -> qA w ((cs.drop o).take (repS n a).length) (repS n a)
 | 0, o, _ => by simp [repS, qA]
 | n + 1, o, h => by
  have h0 := h 0 (by omega)
  rw [Nat.zero_mul, Nat.add_zero] at h0
  have h1 := EL (a := a) (cs := cs) n (o + a.length) (fun i hi => by
   have := h (i + 1) (by omega)
   rwa [Nat.add_mul, Nat.one_mul, Nat.add_comm (i * a.length), ← Nat.add_assoc] at this)
  rw [show repS (n + 1) a = a ++ repS n a from rfl, List.length_append, List.take_add, List.drop_drop]
  exact h0.append h1
theorem vK : ∀ (d fuel : Nat) (t : TypeId) (cs : List Value) (x : DataW H × List MemPlace) (ss : List Sh), shT P d t = some ss -> DataW.trod enc P w base spare held fuel t cs = some x -> qA w cs ss
 | 0, _, _, _, _, _, h, _ => by simp [shT] at h
 | d + 1, fuel, t, cs, x, ss, h, hx => by
  unfold shT at h
  split at h
  ·rename_i hu
   simp only [oi0] at h; subst h
   obtain ⟨b, rfl, rfl⟩ := DataW.trod_bool hu hx
   exact ⟨tt0, tt0⟩
  ·rename_i q hu
   simp only [oi0] at h; subst h
   obtain ⟨n, rfl, rfl, hw⟩ := DataW.trod_int hu hx
   exact ⟨⟨rfl, hw⟩, tt0⟩
  ·rename_i n e hu
   split at h
   ·rename_i a ha
    split at h
    ·rename_i h1 h2
     simp only [oi0] at h; subst h
     have h1 := Nat.eq_of_beq_eq_true h1
     have h2 := Nat.eq_of_beq_eq_true h2
     obtain ⟨xs, m, rfl, rfl, hl, hn, hg⟩ := DataW.trod_array hu hx
     have key := EL (w := w) (a := a) (cs := cs) n 0 (fun i hi => by
      rw [Nat.zero_add, h1]
      have hgi := hg i hi
      rw [List.getElem?_eq_getElem (by omega)] at hgi
      exact vK d m e _ _ a ha hgi)
     rw [List.drop_zero, Bi, h2, ← hl, List.take_length] at key
     exact key
    ·cases h
   ·cases h
  ·rename_i fs hu
   split at h
   ·rename_i a ha
    split at h
    ·rename_i h1
     simp only [oi0] at h; subst h
     have h1 := Nat.eq_of_beq_eq_true h1
     obtain ⟨xs, m, rfl, rfl, hl, hn, hg⟩ := DataW.trod_struct hu hx
     have key := HL (w := w) (cs := cs) fs.toList 0 _ ha (fun f hf a' ha' hl' => by
      obtain ⟨i, hi⟩ := List.mem_iff_getElem?.1 hf
      have hgi := hg i f (by simpa using hi)
      have hlt : i < fs.toList.length := (List.getElem?_eq_some_iff.1 hi).1
      rw [List.getElem?_eq_getElem (by rw [hn]; simpa using hlt)] at hgi
      exact vK d m f.type _ _ a' ha' hgi)
     rw [List.drop_zero, h1, ← hl, List.take_length] at key
     exact key
    ·cases h
   ·cases h
  ·rename_i e hu
   split at h
   ·rename_i a ha
    split at h
    ·rename_i ks h1 h2
     simp only [oi0] at h; subst h
     have h1 := Nat.eq_of_beq_eq_true h1
     rcases Go.Deep.open_slice hu hx with ⟨rfl, rfl⟩ | ⟨ad, len, cap, m, n, D, Pl, rfl, hb, hl, hm, hmm, rfl, hg⟩
     ·exact ⟨⟨[], (fun c hc => by cases hc), .inl rr0⟩, tt0⟩
     ·have hle : len <= m := by rw [hmm]; split <;> omega
      obtain ⟨f, hf⟩ := Go.Deep.choose_lt (α := List Value) (n := len) (p := fun i c => w.cells? base (ad.add (i * P.cellsOf e)) (P.cellsOf e) = some c /\ Fit c ks) (fun i hi => by
       obtain ⟨c, c1, c2⟩ := hg i (by omega)
       exact ⟨c, c1, (vK d n e _ _ a ha c2).plain h2⟩)
      have hk : P.cellsOf e = ks.length := by
       have : ∀ (s : List Sh) (k : List K), plain s = some k -> s.length = k.length := fun s => by
        induction s with
        | nil => intro k hk; simp only [plain, oi0] at hk; subst hk; rfl
        | cons y s ih =>
         intro k hk
         simp only [plain] at hk
         split at hk
         ·rename_i x r e1 e2
          simp only [oi0] at hk; subst hk
          simp [ih r e2]
         ·cases hk
       rw [← h1]; exact this a ks h2
      refine ⟨⟨(List.range len).map f, fun c hc => ?_, .inr ⟨ad, cap, by simp, by simpa using hl, by unfold maxLen at hm; omega, fun j x hj => ?_⟩⟩, tt0⟩
      ·obtain ⟨i, hi, rfl⟩ := List.mem_map.1 hc
       exact (hf i (List.mem_range.1 hi)).2
      ·obtain ⟨i, q, row, g1, g2, rfl⟩ := Bv (k := ks.length) _ j x (fun c hc => by
        obtain ⟨i, hi, rfl⟩ := List.mem_map.1 hc
        exact (hf i (List.mem_range.1 hi)).2.length) hj
       rw [List.getElem?_map] at g1
       obtain ⟨i', hi', rfl⟩ := Option.map_eq_some_iff.1 g1
       have hi2 : i < len := by
        have := (List.getElem?_eq_some_iff.1 hi').1
        simpa using this
       have : i' = i := by
        rw [List.getElem?_range hi2] at hi'
        exact (Option.some.inj hi').symm
       subst this
       obtain ⟨c1, c2⟩ := hf i' hi2
       obtain ⟨_, c4, c5⟩ := World.cells?_some c1
       have hq : q < P.cellsOf e := by rw [← c4]; exact (List.getElem?_eq_some_iff.1 g2).1
       have := c5 q hq
       rw [g2, Go.Deep.add_add, hk] at this
       exact this
    ·cases h
   ·cases h
  ·cases h
end
theorem qA.cons_s {w : World} {cl : List Value} {ks : List K} {ss : List Sh} (h : qA w cl (.s ks :: ss)) : ∃ v vs rows, cl = v :: vs /\ (∀ c, c ∈ rows -> Fit c ks) /\ SlIs w v rows /\ qA w vs ss := by
 cases cl with
 | nil => exact h.elim
 | cons v vs => obtain ⟨⟨rows, h1, h2⟩, h3⟩ := h; exact ⟨v, vs, rows, rfl, h1, h2, h3⟩
theorem qA.cons_i {w : World} {cl : List Value} {q : IntKind} {ss : List Sh} (h : qA w cl (.k (.i q) :: ss)) : ∃ z vs, cl = .int q z :: vs /\ (Lit.int q z).wf = true /\ qA w vs ss := by
 cases cl with
 | nil => exact h.elim
 | cons v vs =>
  obtain ⟨h1, h3⟩ := h
  cases v <;> simp only [fit1, fitK] at h1
  obtain ⟨rfl, h2⟩ := h1
  exact ⟨_, vs, rfl, h2, h3⟩
theorem qA.nil_eq {w : World} {cl : List Value} (h : qA w cl []) : cl = [] := by
 cases cl with
 | nil => rfl
 | cons v vs => exact h.elim
def kS (ks : List K) : List Sh := ks.map Sh.k
theorem qA.take {w : World} : ∀ {cl : List Value} (ks : List K) {ss : List Sh}, qA w cl (kS ks ++ ss) -> ∃ a b, cl = a ++ b /\ Fit a ks /\ qA w b ss
 | cl, [], ss, h => ⟨[], cl, rfl, tt0, h⟩
 | [], k :: ks, ss, h => h.elim
 | v :: cl, k :: ks, ss, h => by
  obtain ⟨a, b, e, h1, h2⟩ := qA.take ks (ss := ss) h.2
  exact ⟨v :: a, b, by rw [e]; rfl, ⟨h.1, h1⟩, h2⟩
theorem y6 {P : Program} {w : World} {r : Reach} {b0 : Nat} {t : TypeId} {a : Addr} {len cap : Nat} (h : Cell.okWide P w r b0 t (.slice (some a) len cap)) : a.spot = none /\ a.block < w.heap.size := by
 have h2 : Cell.ok P w r b0 t (.slice (some a) len cap) := by
  unfold Cell.okWide at h
  split at h <;> first | exact h | (rename_i e; cases e)
 unfold Cell.ok at h2
 split at h2 <;> first | (rename_i e; cases e; done) | skip
 all_goals first
  | (rename_i e1 e2; simp at e2; done)
  | (exact h2.elim)
  | (rename_i e a' len' cap' hu hv
     simp only [Value.slice.injEq, oi0] at hv
     obtain ⟨rfl, rfl, rfl⟩ := hv
     obtain ⟨_, _, _, hs, row, cells, hsh, _⟩ := h2
     refine ⟨hs, ?_⟩
     unfold World.shape? at hsh
     split at hsh
     ·rename_i c el fz hb
      exact (Array.getElem?_eq_some_iff.1 hb).1
     ·cases hsh)
theorem EI {P : Program} {w : World} {r : Reach} {b0 : Nat} {t : TypeId} {cs : Array Value} (ha : abS P t = true) (h : Value.okWide P w r b0 t (.agg cs)) {a : Addr} {len cap : Nat} (hm : Value.slice (some a) len cap ∈ cs.toList) :
  a.spot = none /\ a.block < w.heap.size := by
 unfold abS at ha
 unfold Value.okWide at h
 split at ha
 ·rename_i fs hu
  rw [hu] at h
  obtain ⟨cs', e, _, ts, _, _, hr⟩ := h
  simp only [Value.agg.injEq] at e; subst e
  obtain ⟨i, hi⟩ := List.mem_iff_getElem?.1 hm
  obtain ⟨u, _, h2⟩ := hr i _ (by simpa using hi)
  exact y6 h2
 ·rename_i n e hu
  rw [hu] at h
  obtain ⟨cs', e, _, ts, _, _, hr⟩ := h
  simp only [Value.agg.injEq] at e; subst e
  obtain ⟨i, hi⟩ := List.mem_iff_getElem?.1 hm
  obtain ⟨u, _, h2⟩ := hr i _ (by simpa using hi)
  exact y6 h2
 ·cases ha
theorem SlIs.zrep {w : World} {v : Value} {rows : List (List Value)} (h : SlIs w v rows) (h0 : 0 < w.heap.size) (hs : ∀ a len cap, v = .slice (some a) len cap -> a.spot = none /\ a.block < w.heap.size) : H3 w [.l rows.flatten] rows.length v := by
 refine ⟨rfl, h0, ?_⟩
 rcases h with ⟨rfl, rfl⟩ | ⟨⟨b, off, sp⟩, cap, rfl, h1, h2, h3⟩
 ·exact .inl ⟨rfl, by simp [flat, Ch.cells], rfl⟩
 ·obtain ⟨e1, e2⟩ := hs _ _ _ rfl
  simp only at e1 e2
  subst e1
  refine .inr ⟨b, off, cap - rows.length, by rw [Nat.add_sub_cancel' h1], e2, fun j x hj => ?_⟩
  rw [x7] at hj
  have := h3 j x hj
  rwa [Addr.add_mid] at this
theorem SlIs.len {w : World} {v : Value} {rows : List (List Value)} (h : SlIs w v rows) : rows.length <= 9223372036854775807 := by
 rcases h with ⟨rfl, rfl⟩ | ⟨a, cap, rfl, h1, h2, h3⟩
 ·simp
 ·omega
theorem RJ {P : Program} {w : World} (h : w.ShapedOpen P) (hp : P.globals.size < (begin P (fun _ _ => 0) default).world.heap.size) : 0 < w.heap.size := by
 obtain ⟨_, h2⟩ := h
 obtain ⟨o, o0, h3, _⟩ := h2 P.globals.size (Nat.le_refl _) hp
 have := (Array.getElem?_eq_some_iff.1 h3).1
 omega
theorem LK : ∀ (n : Nat) (vs : List Value), Fit vs (repK n [K.i .u64]) -> ∃ x, x < 18446744073709551616 ^ n /\ vs = limbs n x := by
 intro n vs h
 refine Lw n vs (fun v hv => ?_) (by rw [h.length, xK]; simp)
 have : ∀ (m : Nat) (us : List Value), Fit us (repK m [K.i .u64]) -> ∀ u ∈ us, isU u := fun m => by
  induction m with
  | zero => intro us hu u hm; cases us with | nil => cases hm | cons => exact hu.elim
  | succ m ih =>
   intro us hu u hm
   cases us with
   | nil => cases hm
   | cons y us =>
    obtain ⟨h1, h2⟩ := hu
    rcases List.mem_cons.1 hm with rfl | hm
    ·cases u <;> simp only [fitK] at h1
     rename_i k z
     obtain ⟨rfl, hw⟩ := h1
     have hb := bounds_u64 hw
     exact ⟨z.toNat, by omega, by congr 1; omega⟩
    ·exact ih us h2 u hm
 exact this n vs h v hv
end Go.Ev
set_option linter.unusedSimpArgs false
set_option linter.unusedVariables false
namespace Go.Proofs.YtokjhbmmdmeafaaGreat
open Go.Ev Go.ChangeShapes Go.WideShapes Go.ChangeAt Go.RowKit
def n4K : List K := [K.i .u64, K.i .u64, K.i .u64, K.i .u64]
def K8 : List K := n4K ++ (n4K ++ (n4K ++ (n4K ++ (n4K ++ [K.i .i64, K.i .i64, K.i .i64]))))
theorem sE {vs : List Value} {ks : List K} (h : Fit vs (n4K ++ ks)) : ∃ x us, x < 115792089237316195423570985008687907853269984665640564039457584007913129639936 /\ vs = limbs 4 x ++ us /\ Fit us ks := by
 obtain ⟨h1, h2⟩ := Fit.split h
 obtain ⟨x, hx, e⟩ := LK 4 _ h1
 exact ⟨x, _, Nat.lt_of_lt_of_eq hx (by decide), by rw [← e]; exact (List.take_append_drop _ _).symm, h2⟩
theorem QJ {c : List Value} (h : Fit c K8) : ∃ g : GT, c = gC g /\ smG g := by
 obtain ⟨x0, c1, b0, e0, h1⟩ := sE h
 obtain ⟨x1, c2, b1, e1, h2⟩ := sE h1
 obtain ⟨x2, c3, b2, e2, h3⟩ := sE h2
 obtain ⟨x3, c4, b3, e3, h4⟩ := sE h3
 obtain ⟨x4, c5, b4, e4, h5⟩ := sE h4
 subst e4 e3 e2 e1 e0
 clear h1 h2 h3 h4 h
 match c5, h5 with
 | [.int k0 z0, .int k1 z1, .int k2 z2], ⟨⟨e0, _⟩, ⟨e1, _⟩, ⟨e2, _⟩, _⟩ =>
  subst e0; subst e1; subst e2
  refine ⟨⟨x0, x1, x2, x3, x4, z0, z1, z2⟩, ?_, fun x hx => ?_⟩
  ·simp [gC, gP, flat, Ch.cells]
  ·simp only [gN, List.mem_cons, List.not_mem_nil, or_false] at hx
   rcases hx with rfl | rfl | rfl | rfl | rfl <;> assumption
theorem CA : ∀ rows : List (List Value), (∀ c, c ∈ rows -> Fit c K8) -> ∃ l : List GT, rows.flatten = gsC l /\ l.length = rows.length /\ ∀ g, g ∈ l -> smG g
 | [], _ => ⟨[], rfl, rfl, fun g hg => by cases hg⟩
 | c :: rows, h => by
  obtain ⟨g, rfl, hg⟩ := QJ (h c (by simp))
  obtain ⟨l, e1, e2, e3⟩ := CA rows (fun c hc => h c (by simp [hc]))
  refine ⟨g :: l, by simp [gsC, e1], by simp [e2], fun y hy => ?_⟩
  rcases List.mem_cons.1 hy with rfl | hy
  ·exact hg
  ·exact e3 y hy
def n6K : List K := [K.i .u64, K.i .u64, K.i .u64, K.i .u64, K.i .u64, K.i .u64]
def ptK : List K := n6K ++ (n6K ++ [K.b])
def N4 : List K := n6K ++ (n6K ++ (n6K ++ (n6K ++ [K.b])))
theorem wl {vs : List Value} {ks : List K} (h : Fit vs (n6K ++ ks)) : ∃ x us, x < 39402006196394479212279040100143613805079739270465446667948293404245721771497210611414266254884915640806627990306816 /\ vs = limbs 6 x ++ us /\ Fit us ks := by
 obtain ⟨h1, h2⟩ := Fit.split h
 obtain ⟨x, hx, e⟩ := LK 6 _ h1
 exact ⟨x, _, Nat.lt_of_lt_of_eq hx (by decide), by rw [← e]; exact (List.take_append_drop _ _).symm, h2⟩
theorem HA {vs : List Value} {ks : List K} (h : Fit vs (K.b :: ks)) : ∃ b us, vs = .bool b :: us /\ Fit us ks := by
 cases vs with
 | nil => exact h.elim
 | cons v us =>
  obtain ⟨h1, h2⟩ := h
  cases v <;> simp only [fitK] at h1
  exact ⟨_, us, rfl, h2⟩
theorem Ac {vs : List Value} (h : Fit vs []) : vs = [] := by
 cases vs with
 | nil => rfl
 | cons => exact h.elim
theorem sL {c : List Value} {ks : List K} (h : Fit c (ptK ++ ks)) : ∃ (a : A1) (us : List Value), c = ptC a ++ us /\ sml1 a /\ Fit us ks := by
 have h' : Fit c (n6K ++ (n6K ++ (K.b :: ks))) := h
 obtain ⟨x, c1, b0, e0, h1⟩ := wl h'
 obtain ⟨y, c2, b1, e1, h2⟩ := wl h1
 obtain ⟨i, us, e2, h3⟩ := HA h2
 subst e2 e1 e0
 exact ⟨(x, y, i), us, by simp [ptC, ptP, flat, Ch.cells], ⟨b0, b1⟩, h3⟩
theorem K5 {c : List Value} {ks : List K} (h : Fit c (N4 ++ ks)) : ∃ (a : A2) (us : List Value), c = limbs 6 a.1.1 ++ (limbs 6 a.1.2 ++ (limbs 6 a.2.1.1 ++ (limbs 6 a.2.1.2 ++ (.bool a.2.2 :: us)))) /\ sml2 a /\ Fit us ks := by
 have h' : Fit c (n6K ++ (n6K ++ (n6K ++ (n6K ++ (K.b :: ks))))) := h
 obtain ⟨x, c1, b0, e0, h1⟩ := wl h'
 obtain ⟨y, c2, b1, e1, h2⟩ := wl h1
 obtain ⟨z, c3, b2, e2, h3⟩ := wl h2
 obtain ⟨t, c4, b3, e3, h4⟩ := wl h3
 obtain ⟨i, us, e4, h5⟩ := HA h4
 subst e4 e3 e2 e1 e0
 exact ⟨((x, y), (z, t), i), us, rfl, ⟨⟨b0, b1⟩, ⟨b2, b3⟩⟩, h5⟩
theorem En : ∀ rows : List (List Value), (∀ c, c ∈ rows -> Fit c n4K) -> ∃ l : List Nat, rows.flatten = numC 4 l /\ l.length = rows.length /\ sm4 l
 | [], _ => ⟨[], rfl, rfl, fun g hg => by cases hg⟩
 | c :: rows, h => by
  obtain ⟨x, us, hx, e, hu⟩ := sE (ks := []) (h c (by simp))
  have hu := Ac hu
  subst hu; subst e
  obtain ⟨l, e1, e2, e3⟩ := En rows (fun c hc => h c (by simp [hc]))
  refine ⟨x :: l, by simp [numC] at e1 ⊢; exact e1, by simp [e2], fun y hy => ?_⟩
  rcases List.mem_cons.1 hy with rfl | hy
  ·exact hx
  ·exact e3 y hy
theorem Iv : ∀ rows : List (List Value), (∀ c, c ∈ rows -> Fit c ptK) -> ∃ l : List A1, rows.flatten = qt l /\ l.length = rows.length /\ wB l
 | [], _ => ⟨[], rfl, rfl, fun g hg => by cases hg⟩
 | c :: rows, h => by
  obtain ⟨x, us, e, hx, hu⟩ := sL (ks := []) (h c (by simp))
  have hu := Ac hu
  subst hu; subst e
  obtain ⟨l, e1, e2, e3⟩ := Iv rows (fun c hc => h c (by simp [hc]))
  refine ⟨x :: l, by simp [qt, e1], by simp [e2], fun y hy => ?_⟩
  rcases List.mem_cons.1 hy with rfl | hy
  ·exact hx
  ·exact e3 y hy
theorem Mg {P : Program} {w : World} {r : Reach} {b0 : Nat} {t e : TypeId} (hu : P.underlying t = some (.slice e)) {a : Addr} {len cap : Nat} (h : Value.okWide P w r b0 t (.slice (some a) len cap)) : a.spot = none /\ a.block < w.heap.size := by
 unfold Value.okWide at h
 rw [hu] at h
 exact y6 h
theorem qA.all {w : World} {cl : List Value} {ks : List K} (h : qA w cl (kS ks)) : Fit cl ks := by
 obtain ⟨a, b, e, h1, h2⟩ := qA.take ks (ss := []) (by rwa [List.append_nil])
 have h2 := h2.nil_eq
 subst h2
 rw [List.append_nil] at e
 subst e
 exact h1
theorem Tryz.own : ownKnob Tryz.prog.godebug = none := by kernel_rfl
set_option maxRecDepth 100000 in
theorem Tryz.laid : laidOutB Tryz.prog = true := by kernel_rfl
set_option maxRecDepth 100000 in
theorem Tryz.some_blocks : Tryz.prog.globals.size < (begin Tryz.prog (fun _ _ => 0) default).world.heap.size := of_decide_eq_true (by kernel_rfl)
end Go.Proofs.YtokjhbmmdmeafaaGreat
set_option linter.unusedSimpArgs false
set_option linter.unusedVariables false
namespace Go.Ev
open Go.ChangeShapes Go.WideShapes Go.ChangeAt Go.RowKit
section
variable {H : Type} {enc : TypeId × Value -> H} {P : Program} {w : World} {base : Nat} {spare : Nat -> Bool} {held : Bool}
theorem F8 {t0 t1 t2 t3 t4 : TypeId} {args : Array Value} {ds : List (DataW H)} {ps : List MemPlace} (h : DataW.TrodAll enc P w base spare held [t0, t1, t2, t3, t4] args.toList ds ps) :
  ∃ v0 v1 v2 v3 v4 d0 d1 d2 d3 d4 p0 p1 p2 p3 p4, args = #[v0, v1, v2, v3, v4] /\ ds = [d0, d1, d2, d3, d4] /\ ps = p0 ++ p1 ++ p2 ++ p3 ++ p4 /\ DataW.Trod enc P w base spare held t0 v0 d0 p0 /\ DataW.Trod enc P w base spare held t1 v1 d1 p1 /\ DataW.Trod enc P w base spare held t2 v2 d2 p2 /\ DataW.Trod enc P w base spare held t3 v3 d3 p3 /\ DataW.Trod enc P w base spare held t4 v4 d4 p4 := by
 obtain ⟨v0, s0, d0, e0, p0, q0, hargs, rfl, rfl, h0, r0⟩ := trodAll_cons h
 obtain ⟨v1, s1, d1, e1, p1, q1, rfl, rfl, rfl, h1, r1⟩ := trodAll_cons r0
 obtain ⟨v2, s2, d2, e2, p2, q2, rfl, rfl, rfl, h2, r2⟩ := trodAll_cons r1
 obtain ⟨v3, s3, d3, e3, p3, q3, rfl, rfl, rfl, h3, r3⟩ := trodAll_cons r2
 obtain ⟨v4, s4, d4, e4, p4, q4, rfl, rfl, rfl, h4, r4⟩ := trodAll_cons r3
 obtain ⟨rfl, rfl, rfl⟩ := trodAll_nil r4
 exact ⟨v0, v1, v2, v3, v4, d0, d1, d2, d3, d4, p0, p1, p2, p3, p4, by cases args; simp_all, rfl, by simp, h0, h1, h2, h3, h4⟩
theorem Ip {t0 t1 t2 t3 t4 : TypeId} {v0 v1 v2 v3 v4 : Value} {d0 d1 d2 d3 d4 : DataW H} {p0 p1 p2 p3 p4 : List MemPlace} (h0 : DataW.Trod enc P w base spare held t0 v0 d0 p0) (h1 : DataW.Trod enc P w base spare held t1 v1 d1 p1) (h2 : DataW.Trod enc P w base spare held t2 v2 d2 p2) (h3 : DataW.Trod enc P w base spare held t3 v3 d3 p3) (h4 : DataW.Trod enc P w base spare held t4 v4 d4 p4) :
  DataW.TrodAll enc P w base spare held [t0, t1, t2, t3, t4] [v0, v1, v2, v3, v4] [d0, d1, d2, d3, d4] (p0 ++ (p1 ++ (p2 ++ (p3 ++ p4)))) := ⟨p0, p1 ++ (p2 ++ (p3 ++ p4)), h0, ⟨p1, p2 ++ (p3 ++ p4), h1, trodAll_mk3 h2 h3 h4, rfl⟩, rfl⟩
end
end Go.Ev
set_option linter.unusedSimpArgs false
set_option linter.unusedVariables false
namespace Go.Proofs.YtokjhbmmdmeafaaGreat
open Go.Ev Go.ChangeShapes Go.WideShapes Go.ChangeAt Go.RowKit
def prK : List K := (ptK ++ (ptK ++ (ptK ++ (ptK ++ (ptK ++ (ptK ++ (ptK ++ (ptK ++ (ptK ++ (n4K ++ (n4K ++ (n4K ++ (n4K ++ (n4K ++ (n4K ++ [])))))))))))))))
def vfK : List K := (K.i .i64 :: K.i .i64 :: (ptK ++ (ptK ++ (ptK ++ (ptK ++ (ptK ++ (ptK ++ (ptK ++ (ptK ++ (N4 ++ []))))))))))
theorem KJ {vs : List Value} {ks : List K} (h : Fit vs (K.i .i64 :: ks)) : ∃ (b : Int) (us : List Value), vs = .int .i64 b :: us /\ Fit us ks := by
 match vs, h with
 | [], h => exact h.elim
 | .int k z :: us, ⟨⟨e, _⟩, h2⟩ => subst e; exact ⟨z, us, rfl, h2⟩
theorem M7 {c : List Value} (h : Fit c prK) : ∃ p : PF, c = flat p.ch /\ p.sm := by
 have h0 : Fit c (ptK ++ (ptK ++ (ptK ++ (ptK ++ (ptK ++ (ptK ++ (ptK ++ (ptK ++ (ptK ++ (n4K ++ (n4K ++ (n4K ++ (n4K ++ (n4K ++ (n4K ++ []))))))))))))))) := h
 clear h
 obtain ⟨a0, c0, e0, m0, h1⟩ := sL h0
 obtain ⟨a1, c1, e1, m1, h2⟩ := sL h1
 obtain ⟨a2, c2, e2, m2, h3⟩ := sL h2
 obtain ⟨a3, c3, e3, m3, h4⟩ := sL h3
 obtain ⟨a4, c4, e4, m4, h5⟩ := sL h4
 obtain ⟨a5, c5, e5, m5, h6⟩ := sL h5
 obtain ⟨a6, c6, e6, m6, h7⟩ := sL h6
 obtain ⟨a7, c7, e7, m7, h8⟩ := sL h7
 obtain ⟨a8, c8, e8, m8, h9⟩ := sL h8
 obtain ⟨x0, c9, m9, e9, h10⟩ := sE h9
 obtain ⟨x1, c10, m10, e10, h11⟩ := sE h10
 obtain ⟨x2, c11, m11, e11, h12⟩ := sE h11
 obtain ⟨x3, c12, m12, e12, h13⟩ := sE h12
 obtain ⟨x4, c13, m13, e13, h14⟩ := sE h13
 obtain ⟨x5, c14, m14, e14, h15⟩ := sE h14
 obtain rfl := Ac h15
 subst e14 e13 e12 e11 e10 e9 e8 e7 e6 e5 e4 e3 e2 e1 e0
 refine ⟨⟨a0, a1, a2, a3, a4, a5, a6, a7, a8, x0, x1, x2, x3, x4, x5⟩, ?_, fun x hx => ?_, fun x hx => ?_⟩
 ·simp [PF.ch, ptC, ptP, flat, Ch.cells]
 ·simp only [PF.pts, List.mem_cons, List.not_mem_nil, or_false] at hx
  rcases hx with rfl | rfl | rfl | rfl | rfl | rfl | rfl | rfl | rfl <;> assumption
 ·simp only [PF.nums, List.mem_cons, List.not_mem_nil, or_false] at hx
  rcases hx with rfl | rfl | rfl | rfl | rfl | rfl <;> assumption
theorem MM {c : List Value} (h : Fit c vfK) : ∃ v : VT, c = flat v.ch /\ v.sm := by
 have h : Fit c (K.i .i64 :: K.i .i64 :: (ptK ++ (ptK ++ (ptK ++ (ptK ++ (ptK ++ (ptK ++ (ptK ++ (ptK ++ (N4 ++ [])))))))))) := h
 obtain ⟨zl, d0, el, h⟩ := KJ h
 obtain ⟨zp, d1, ep, h0⟩ := KJ h
 clear h
 obtain ⟨b0, c0, e0, m0, h1⟩ := sL h0
 obtain ⟨b1, c1, e1, m1, h2⟩ := sL h1
 obtain ⟨b2, c2, e2, m2, h3⟩ := sL h2
 obtain ⟨b3, c3, e3, m3, h4⟩ := sL h3
 obtain ⟨b4, c4, e4, m4, h5⟩ := sL h4
 obtain ⟨b5, c5, e5, m5, h6⟩ := sL h5
 obtain ⟨b6, c6, e6, m6, h7⟩ := sL h6
 obtain ⟨b7, c7, e7, m7, h8⟩ := sL h7
 obtain ⟨b, us, eb, hb, hu⟩ := K5 (ks := []) h8
 obtain rfl := Ac hu
 subst eb e7 e6 e5 e4 e3 e2 e1 e0
 subst ep el
 refine ⟨⟨zl, zp, b0, b1, b2, b3, b4, b5, b6, b7, b⟩, ?_, fun x hx => ?_, hb⟩
 ·simp [VT.ch, ptC, ptP, flat, Ch.cells]
 ·simp only [VT.pts, List.mem_cons, List.not_mem_nil, or_false] at hx
  rcases hx with rfl | rfl | rfl | rfl | rfl | rfl | rfl | rfl <;> assumption
set_option maxRecDepth 100000 in
theorem formatBack_lifted (os : Os) (started : os.Started) (H : Type) (enc : TypeId × Value -> H) :
  ReturnsInHanded {} Tryz.checked os 4 .any (Rows.formatBackSpec.pre6 enc Tryz.prog Tryz.f4 Rows.formatBackRow.domain false) (Rows.formatBackSpec.post enc Tryz.prog Tryz.f4 false true false false) := by
 refine returnsInHanded_of_change_shaped (C := Tryz.checked) Tryz.own started (by kernel_rfl) Tryz.func4
  (ChangeSpec.witness6 (enc := enc) (C := Tryz.checked) false ⟨#[], #[.agg ((List.replicate 9 (List.replicate 12 (Value.int .u64 0) ++ [Value.bool false])).flatten ++ List.replicate 24 (Value.int .u64 0)).toArray, .agg ([Value.int .i64 0, Value.int .i64 0] ++ (List.replicate 8 (List.replicate 12 (Value.int .u64 0) ++ [Value.bool false])).flatten ++ (List.replicate 24 (Value.int .u64 0) ++ [Value.bool false])).toArray, .slice none 0 0, .agg #[.slice none 0 0, .int .i64 0, .int .i64 0], .agg (#[.slice none 0 0] ++ Array.replicate 24 (.int .u64 0) ++ #[.bool false])], []⟩ 8 (by kernel_rfl) (by kernel_rfl) (by kernel_rfl) (by kernel_rfl)) ?_
 intro W base args ds vs0 before hval0 hW _ _ hshape _
 have hval : ∀ (j : Nat) t v, Tryz.f4.params[j]? = some t -> args[j]? = some v -> Value.okWide Tryz.prog W .any base t v := hval0
 have hW' := hW
 obtain ⟨p, q, hA0, hV, rfl, _, _⟩ := hW
 have hA : DataW.TrodAll enc Tryz.prog W 0 (fun _ => true) true Tryz.f4.params.toList args.toList ds p := hA0
 rw [Tryz.params4] at hA hval
 obtain ⟨v0, v1, v2, v3, v4, d0, d1, d2, d3, d4, p0, p1, p2, p3, p4, rfl, rfl, rfl, h0, h1, h2, h3, h4⟩ := F8 hA
 obtain ⟨rfl, rfl⟩ := trodVars_none hV
 have hpos : 0 < W.heap.size := RJ hshape Tryz.some_blocks
 have ok0 := hval 0 _ v0 rfl rfl
 have ok1 := hval 1 _ v1 rfl rfl
 have ok2 := hval 2 _ v2 rfl rfl
 have ok3 := hval 3 _ v3 rfl rfl
 have ok4 := hval 4 _ v4 rfl rfl
 obtain ⟨cs0, rfl, _⟩ := okWide_struct Tryz.underlying30 ok0
 obtain ⟨cs1, rfl, _⟩ := okWide_struct Tryz.underlying41 ok1
 obtain ⟨a0, len0, cap0, rfl⟩ := okWide_slice Tryz.underlying44 ok2
 obtain ⟨cs3, rfl, _⟩ := okWide_struct Tryz.underlying49 ok3
 obtain ⟨cs4, rfl, _⟩ := okWide_struct Tryz.underlying54 ok4
 obtain ⟨fu0, hf0⟩ := h0
 obtain ⟨fu1, hf1⟩ := h1
 obtain ⟨fu2, hf2⟩ := h2
 obtain ⟨fu3, hf3⟩ := h3
 obtain ⟨fu4, hf4⟩ := h4
 have t0 : qA W cs0.toList (kS prK) := vK 8 fu0 _ _ _ (kS prK) (by kernel_rfl) hf0
 have t1 : qA W cs1.toList (kS vfK) := vK 8 fu1 _ _ _ (kS vfK) (by kernel_rfl) hf1
 have t2 : qA W [.slice a0 len0 cap0] [.s n4K] := vK 8 fu2 _ _ _ [.s n4K] (by kernel_rfl) hf2
 have t3 : qA W cs3.toList [.s K8, .k (.i .i64), .k (.i .i64)] := vK 8 fu3 _ _ _ [.s K8, .k (.i .i64), .k (.i .i64)] (by kernel_rfl) hf3
 have t4 : qA W cs4.toList (.s ptK :: kS N4) := vK 8 fu4 _ _ _ (.s ptK :: kS N4) (by kernel_rfl) hf4
 have hlt0 := DataW.trod_lt fu0 _ _ _ hf0
 have hlt1 := DataW.trod_lt fu1 _ _ _ hf1
 have hlt2 := DataW.trod_lt fu2 _ _ _ hf2
 have hlt3 := DataW.trod_lt fu3 _ _ _ hf3
 have hlt4 := DataW.trod_lt fu4 _ _ _ hf4
 obtain ⟨pr, e0, hp⟩ := M7 (qA.all t0)
 obtain ⟨vr, e1, hv⟩ := MM (qA.all t1)
 obtain rfl : cs0 = (flat pr.ch).toArray := Array.toList_inj.1 e0
 obtain rfl : cs1 = (flat vr.ch).toArray := Array.toList_inj.1 e1
 obtain ⟨y2, c2, rows2, e2, hr2, hs2, _⟩ := t2.cons_s
 obtain ⟨rfl, rfl⟩ := List.cons.inj e2
 obtain ⟨ns, g1, g2, g3⟩ := En rows2 hr2
 have z2 : H3 W [.l (numC 4 ns)] ns.length (.slice a0 len0 cap0) := by
  rw [← g1, g2]
  exact hs2.zrep hpos (fun a len cap e => Mg Tryz.underlying44 (e ▸ ok2))
 obtain ⟨s3, c3, rows3, e3, hr3, hs3, f3⟩ := t3.cons_s
 obtain ⟨pub, c3b, ep3, _, f3b⟩ := f3.cons_i
 obtain ⟨vars, c3c, eq3, _, f3c⟩ := f3b.cons_i
 have f3d := f3c.nil_eq
 subst f3d
 subst eq3
 subst ep3
 obtain ⟨l, l1, l2, l3⟩ := CA rows3 hr3
 have z3 : H3 W [.l (gsC l)] l.length s3 := by
  rw [← l1, l2]
  exact hs3.zrep hpos (fun a len cap e => EI (a := a) (len := len) (cap := cap) (by kernel_rfl) ok3 (by rw [e3, e]; exact List.mem_cons_self))
 have ec3 : cs3 = [s3, .int .i64 pub, .int .i64 vars].toArray := Array.toList_inj.1 e3
 obtain ⟨s1, c1, rows1, e4, hr1, hs1, f1⟩ := t4.cons_s
 obtain ⟨ps, k1, k2, k3⟩ := Iv rows1 hr1
 have z1 : H3 W [.l (qt ps)] ps.length s1 := by
  rw [← k1, k2]
  exact hs1.zrep hpos (fun a len cap e => EI (a := a) (len := len) (cap := cap) (by kernel_rfl) ok4 (by rw [e4, e]; exact List.mem_cons_self))
 obtain ⟨b, us, e5, hb, hu⟩ := K5 (ks := []) (qA.all f1)
 have hu := Ac hu
 subst hu
 have ecs : cs4 = (s1 :: (limbs 6 b.1.1 ++ (limbs 6 b.1.2 ++ (limbs 6 b.2.1.1 ++ (limbs 6 b.2.1.2 ++ [.bool b.2.2]))))).toArray := by
  apply Array.toList_inj.1
  rw [e4, e5]
 clear hA0 hval0
 simp only [List.append_nil] at hW'
 obtain ⟨v, hvv, hrun⟩ := As pr hp vr hv ns g3 l l3 pub vars ps k3 b hb
 simp only [AV.val?, oi0] at hvv
 subst hvv
 refine (hrun W [_, _, _, _, _] ⟨rfl, rfl, z2, ⟨[s3, .int .i64 pub, .int .i64 vars], by rw [ec3], ⟨_, _, rfl, z3, rfl, _, rfl, rfl, _, rfl, rfl⟩⟩, ⟨s1 :: (limbs 6 b.1.1 ++ (limbs 6 b.1.2 ++ (limbs 6 b.2.1.1 ++ (limbs 6 b.2.1.2 ++ [.bool b.2.2])))), by rw [ecs], ⟨_, _, rfl, z1, rfl, _, rfl, rfl, _, rfl, rfl, _, rfl, rfl, _, rfl, rfl, _, rfl, rfl⟩⟩, tt0⟩).mono fun e W' ⟨he, hbel⟩ => ?_
 subst he
 exact ⟨_, rfl, _, _, _, [], _, [], hW', trodAll_mk1 (shut_bool Tryz.underlying4 true), by
  have hm := Ip (Below.trod Tryz.laid (by kernel_rfl) (of_decide_eq_true (by kernel_rfl)) ⟨fu0, hf0⟩ hbel hlt0) (Below.trod Tryz.laid (by kernel_rfl) (of_decide_eq_true (by kernel_rfl)) ⟨fu1, hf1⟩ hbel hlt1) (Below.trod Tryz.laid (by kernel_rfl) (of_decide_eq_true (by kernel_rfl)) ⟨fu2, hf2⟩ hbel hlt2) (Below.trod Tryz.laid (by kernel_rfl) (of_decide_eq_true (by kernel_rfl)) ⟨fu3, hf3⟩ hbel hlt3) (Below.trod Tryz.laid (by kernel_rfl) (of_decide_eq_true (by kernel_rfl)) ⟨fu4, hf4⟩ hbel hlt4)
  exact hm, rfl, hbel.frame _, fun h => by cases h⟩
theorem formatBack_holds : Rows.FormatBackSaid :=
 OpenClaim.holds_of_wide 4 Tryz.f4 rfl rfl rfl rfl rfl rfl rfl ⟨rfl, rfl, rfl, rfl, rfl⟩ rfl rfl rfl rfl rfl (by kernel_rfl) Tryz.func4 (by kernel_rfl)
  (of_decide_eq_true (by kernel_rfl)) (by unfold Func.isWrapper; first | (rw [if_pos (by decide +kernel)]; kernel_rfl) | (rw [if_neg (by decide +kernel)]; exact rr0))
  (fun os started H enc _ => formatBack_lifted os started H enc)
end Go.Proofs.YtokjhbmmdmeafaaGreat
