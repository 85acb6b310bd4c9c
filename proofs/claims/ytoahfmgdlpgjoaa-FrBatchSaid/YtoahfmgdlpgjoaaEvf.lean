/- The evaluator's regions: whatever order their operations are taken in. -/
import Derived.Test.YtoahfmgdlpgjoaaEve
import Derived.Laws.CopyOwn
set_option linter.unusedSimpArgs false
set_option linter.unusedVariables false
namespace Go.Ev
open Go.RowKit

def AA.app (A : AA) (o : Oper) (id : Nat) (r : AV) (nb : Option Blk) : AA := ⟨putA A.t o.dst r, updH A.h id nb, A.d⟩

def okC : List Ch → Bool
  | [] => true
  | .c (.agg _) :: _ => false
  | .c (.tuple _) :: _ => false
  | .l _ :: _ => false
  | _ :: l => okC l

theorem limbs_one : ∀ w x, ∀ v ∈ limbs w x, v.oneCell' = true
  | 0, _, v, h => by simp [limbs] at h
  | w + 1, x, v, h => by
    simp only [limbs, List.mem_cons] at h
    rcases h with rfl | h
    · rfl
    · exact limbs_one w _ v h

theorem okC_one (ρ : Names) : ∀ {l : List Ch}, okC l = true → ∀ v ∈ flatR ρ l, v.oneCell' = true
  | [], _, v, h => by simp [flatR] at h
  | c :: l, ho, v, h => by
    simp only [flatR, List.mem_append] at h
    rcases h with h | h
    · cases c with
      | c x =>
        simp only [Ch.cells, List.mem_singleton] at h
        subst h
        cases v <;> first | rfl | (simp [okC] at ho)
      | n w x => exact limbs_one _ _ v h
      | e x => exact limbs_one _ _ v h
      | s x => exact limbs_one _ _ v h
      | q x => exact limbs_one _ _ v h
      | m x => exact limbs_one _ _ v h
      | l vs => simp [okC] at ho
      | p id off => simp only [Ch.cells, List.mem_singleton] at h; subst h; rfl
      | sl id off len cap => simp only [Ch.cells, List.mem_singleton] at h; subst h; rfl
      | sx id len => simp only [Ch.cells, List.mem_singleton] at h; subst h; rfl
      | sz id len => simp only [Ch.cells, List.mem_singleton] at h; subst h; unfold Names.sz zval; split <;> (try split) <;> rfl
      | y bs => simp only [Ch.cells, List.mem_map] at h; obtain ⟨b, _, rfl⟩ := h; rfl
    · refine okC_one ρ (l := l) ?_ v h
      cases c with
      | c x => cases x <;> first | exact ho | (simp [okC] at ho)
      | l vs => simp [okC] at ho
      | _ => exact ho

def storeA (P : Program) (A : AA) (T : TypeId) (x y : Operand) : Option Heap :=
  match evA A.t x, boxA (evA A.t y), P.info? T with
  | .p id off, some cs, some i =>
    match Nat.beq (sizes cs) i.size, okC cs with
    | true, true =>
      (match A.h.get id with
      | some (.own bs t) => (spliceB bs off cs).map fun cs' => A.h.put id (.own cs' t)
      | _ => none)
    | _, _ => none
  | _, _, _ => none

theorem storeA_spec {P : Program} {A : AA} {T : TypeId} {x y : Operand} {h' : Heap} (hst : storeA P A T x y = some h') :
    ∃ id off cs i bs t cs', evA A.t x = .p id off ∧ boxA (evA A.t y) = some cs ∧ P.info? T = some i ∧ sizes cs = i.size ∧ okC cs = true ∧ A.h.get id = some (.own bs t) ∧ spliceB bs off cs = some cs' ∧ h' = A.h.put id (.own cs' t) := by
  unfold storeA at hst
  split at hst
  · rename_i id off cs i hx hy hi
    split at hst
    · rename_i h1 h2
      split at hst
      · rename_i bs t hblk
        simp only [Option.map_eq_some_iff] at hst
        obtain ⟨cs', h3, rfl⟩ := hst
        exact ⟨id, off, cs, i, bs, t, cs', hx, hy, hi, Nat.eq_of_beq_eq_true h1, h2, hblk, h3, rfl⟩
      · cases hst
    · cases hst
  · cases hst

theorem storeA_mk {P : Program} {A : AA} {T : TypeId} {x y : Operand} {id off : Nat} {cs : List Ch} {i : TypeInfo} {bs : List Ch} {t : TypeId} {cs' : List Ch} (h1 : evA A.t x = .p id off) (h2 : boxA (evA A.t y) = some cs) (h3 : P.info? T = some i)
    (h4 : sizes cs = i.size) (h5 : okC cs = true) (h6 : A.h.get id = some (.own bs t)) (h7 : spliceB bs off cs = some cs') : storeA P A T x y = some (A.h.put id (.own cs' t)) := by
  unfold storeA
  simp only [h1, h2, h3, h4, h5, h6, h7, Nat.beq_refl, Option.map_some]

theorem storeA_fresh {P : Program} {A : AA} {T : TypeId} {x y : Operand} {h' : Heap} (hst : storeA P A T x y = some h') {j : Nat} (hj0 : A.h.get j = none) : h'.get j = none := by
  obtain ⟨id, off, cs, i, bs, t, cs', _, _, _, _, _, h6, _, rfl⟩ := storeA_spec hst
  rw [Heap.put_ne _ (fun e => by rw [e, h6] at hj0; cases hj0)]
  exact hj0

def wantedA (ops : Array Oper) (t : Sl) (o : Oper) : Option Bool :=
  match o.guard with
  | none => some true
  | some (j, want) =>
    match (ops[j]?).bind (·.dst) with
    | some d => match t.get d with | .v (.bool b) => some (b == want) | .any => none | _ => some false
    | none => some false

theorem wantedA_eq {ρ : Names} {ops : Array Oper} {t : Sl} {a : Act} (hs : Slots ρ t a.tmps) {o : Oper} {r : Bool} (h : wantedA ops t o = some r) : Region.wanted o (yielded ops a.tmps) = r := by
  unfold wantedA at h
  unfold Region.wanted
  cases hg : o.guard with
  | none => rw [hg] at h; simpa using h
  | some gw =>
    obtain ⟨j, want⟩ := gw
    rw [hg] at h
    simp only at h ⊢
    unfold yielded
    cases hd : (ops[j]?).bind (·.dst) with
    | none => rw [hd] at h; simpa using h
    | some d =>
      rw [hd] at h
      simp only [Option.bind_some] at h ⊢
      cases ht : a.tmps[d]? with
      | none => rw [hs.get_none ht] at h; simpa using h
      | some x =>
        have h2 := hs.get_some ht
        generalize t.get d = av at h2 h
        cases av <;> simp only [Rep] at h2 <;> try (simp only [reduceCtorEq] at h; done)
        case v y =>
          subst h2
          cases x <;> simp only [Option.some.injEq] at h <;> first | (subst h; rfl) | (rename_i b; subst h; cases want <;> cases b <;> rfl)
        case ag => obtain ⟨_, rfl⟩ := h2; simpa using h
        case u => subst h2; simpa [u64] using h
        case tp => obtain ⟨_, _, rfl⟩ := h2; simpa using h
        case clo => obtain ⟨_, _, _, _, rfl⟩ := h2; simpa using h
        case p => obtain ⟨b, _, rfl⟩ := h2; simpa using h
        case sl => obtain ⟨b, _, rfl⟩ := h2; simpa using h
        case sx => obtain ⟨b, _, rfl⟩ := h2; simpa using h
        case sy => obtain ⟨b, c, _, rfl⟩ := h2; simpa using h
        case mp => obtain ⟨b, _, rfl⟩ := h2; simpa using h
        case sz =>
          obtain ⟨b, _, _, rfl⟩ := h2
          obtain ⟨a1, l1, c1, e1⟩ := zval_slice b _
          rw [e1]; simpa using h
        case yd => obtain ⟨b, _, rfl⟩ := h2; simpa using h
        case ifc => obtain ⟨b, _, rfl⟩ := h2; simpa using h

/-! ### What an operation does hangs on the slots that it looks at alone -/
theorem get_put {t : Sl} {d i : Nat} {v : AV} (h : i ≠ d) : (t.set d v).get i = t.get i := by
  unfold Sl.get Sl.set Sl.at
  simp only [Tr.get_set_ne 12 _ _ _ _ h]

theorem evA_put {t : Sl} {dst : Option Tmp} {v : AV} {x : Operand} (h : ∀ d, dst = some d → x ≠ .tmp d) : evA (putA t dst v) x = evA t x := by
  cases dst with
  | none => rfl
  | some d =>
    cases x with
    | tmp i =>
      have hne : d ≠ i := fun e => h d rfl (by rw [e])
      exact get_put (Ne.symm hne)
    | _ => rfl

section
variable {P : Program} {X : Rules P} {env : List Entry} {h0 : Heap}

theorem ops_congr {t t' : Sl} (l : List Operand) (h : ∀ x ∈ l, evA t x = evA t' x) : l.map (evA t) = l.map (evA t') := List.map_congr_left h

theorem opt_congr {t t' : Sl} {x : Option Operand} (h : ∀ y, x = some y → evA t y = evA t' y) : opt t x = opt t' x := by
  cases x with
  | none => rfl
  | some y => simp only [opt, h y rfl]

theorem valA_congr {t t' : Sl} (op : Op) (h : ∀ x ∈ op.operands, evA t x = evA t' x) : valA P h0 t op = valA P h0 t' op := by
  cases op <;> simp only [Op.operands] at h <;> simp only [valA]
  case move x => rw [h x (by simp)]
  case assign x => rw [h x (by simp)]
  case pick c a b => rw [h c (by simp), h a (by simp), h b (by simp)]
  case load T x => rw [h x (by simp)]
  case build T ps =>
    have : (ps.toList.map fun (i, x) => (i, evA t x)) = (ps.toList.map fun (i, x) => (i, evA t' x)) := List.map_congr_left fun p hp => by
      obtain ⟨i, x⟩ := p
      simp only [h x (by simp; exact ⟨i, by simpa using hp⟩)]
    rw [this]
  case fieldAddr S x f => rw [h x (by simp)]
  case field S x f => rw [h x (by simp)]
  case indexAddr T x i => rw [h x (by simp), h i (by simp)]
  case index T x i => rw [h x (by simp), h i (by simp)]
  case extract x i => rw [h x (by simp)]
  case unOp op T x => rw [h x (by simp)]
  case binOp op T x y yt => rw [h x (by simp), h y (by simp)]
  case convert s d x => rw [h x (by simp)]
  case nilCheck x => rw [h x (by simp)]
  case sliceToArrayPointer T x => rw [h x (by simp)]
  case makeInterface T x => rw [h x (by simp)]
  case slice T x lo hi mx =>
    rw [h x (by simp), opt_congr (x := lo) (fun y e => h y (by simp [e])), opt_congr (x := hi) (fun y e => h y (by simp [e])), opt_congr (x := mx) (fun y e => h y (by simp [e]))]
  case makeFunc fn first captured =>
    cases fn <;> simp only []
    rw [ops_congr first.toList (fun x hx => h x (by simp; exact .inl (by simpa using hx))), ops_congr captured.toList (fun x hx => h x (by simp; exact .inr (by simpa using hx)))]
  case call c =>
    obtain ⟨callee, args, at'⟩ := c
    cases callee <;> simp only [Call.operands] at h ⊢
    rename_i b
    cases b <;> simp only []
    all_goals rw [ops_congr args.toList (fun x hx => h x (by simpa using hx))]

theorem altA_congr {t t' : Sl} {ora : Ora} (op : Op) (h : ∀ x ∈ op.operands, evA t x = evA t' x) : altA P X env ora h0 t op = altA P X env ora h0 t' op := by
  unfold altA
  rw [valA_congr op h, ops_congr op.operands.toList (fun x hx => h x (by simpa using hx))]
  cases op <;> simp only [Op.operands] at h <;> try rfl
  case call c =>
    obtain ⟨callee, args, at'⟩ := c
    cases callee <;> simp only [Call.operands] at h ⊢
    · rename_i f
      rw [h f (by simp), ops_congr args.toList (fun x hx => h x (by simp; exact .inr (by simpa using hx)))]
    · rename_i r m
      rw [h r (by simp), ops_congr args.toList (fun x hx => h x (by simp; exact .inr (by simpa using hx)))]
  case binOp op T x y yt =>
    have e1 := h x (by simp)
    have e2 := h y (by simp)
    cases op <;> first | rfl | simp only [e1, e2]

theorem stepQ_congr {t t' : Sl} {id : Nat} {ch : Ora} (op : Op) (h : ∀ x ∈ op.operands, evA t x = evA t' x) : stepQ P X env h0 t id ch op = stepQ P X env h0 t' id ch op := by
  have ha := altA_congr (P := P) (X := X) (env := env) (h0 := h0) (ora := ch) op h
  unfold stepQ
  cases op <;> simp only [Op.operands] at h <;> simp only [ha]
  case box T x => rw [h x (by simp)]
  case buildSlice T len ps =>
    have : (ps.toList.map fun (i, x) => (i, evA t x)) = (ps.toList.map fun (i, x) => (i, evA t' x)) := List.map_congr_left fun p hp => by
      obtain ⟨i, x⟩ := p
      simp only [h x (by simp; exact ⟨i, by simpa using hp⟩)]
    rw [this]
  case makeSlice T l c => rw [h l (by simp), h c (by simp)]

theorem stepQ_put {ops : Array Oper} {t : Sl} {id : Nat} {ch : Ora} (o : Oper) {dst : Option Tmp} {v : AV} (h : ∀ d, dst = some d → d ∉ o.looksAt ops) :
    stepQ P X env h0 (putA t dst v) id ch o.op = stepQ P X env h0 t id ch o.op :=
  stepQ_congr o.op fun x hx => evA_put fun d hd hxd => h d hd (by
    subst hxd
    exact List.mem_append_left _ (List.mem_filterMap.2 ⟨.tmp d, by simpa using hx, rfl⟩))

theorem wantedA_put {ops : Array Oper} {t : Sl} (o : Oper) {dst : Option Tmp} {v : AV} (h : ∀ d, dst = some d → d ∉ o.looksAt ops) : wantedA ops (putA t dst v) o = wantedA ops t o := by
  cases dst with
  | none => rfl
  | some d =>
    unfold wantedA
    cases hg : o.guard with
    | none => rfl
    | some gw =>
      obtain ⟨j, want⟩ := gw
      simp only
      cases ht : (ops[j]?).bind (·.dst) with
      | none => rfl
      | some e =>
        have hne : d ≠ e := fun he => h d rfl (by subst he; simp [Oper.looksAt, hg, ht])
        simp only [putA]
        rw [get_put (Ne.symm hne)]

theorem putA_comm {t : Sl} {x y : Option Tmp} {u v : AV} (h : ∀ d, x = some d → y ≠ some d) : putA (putA t x u) y v = putA (putA t y v) x u := by
  cases x with
  | none => rfl
  | some d =>
    cases y with
    | none => rfl
    | some e =>
      have hne : d ≠ e := fun he => h d rfl (by rw [he])
      simp only [putA]
      simp only [Sl.set, Sl.mk.injEq, true_and]
      exact Tr.set_comm 12 _ _ _ _ _ hne

theorem updH_comm {h : Heap} {i j : Nat} (hij : i ≠ j) (a b : Option Blk) : updH (updH h i a) j b = updH (updH h j b) i a := by
  cases a <;> cases b <;> simp only [updH]
  exact Heap.put_comm _ _ hij

/-! ### One operation of a region's head -/
variable {ops : Array Oper} {os : Nat → Ora} {fr : Nat}

def good (P : Program) (X : Rules P) (env : List Entry) (h0 : Heap) (ops : Array Oper) (os : Nat → Ora) (fr : Nat) (i : Nat) (o : Oper) (t : Sl) (r : AV) (nb : Option Blk) : Prop :=
  (wantedA ops t o = some true ∧ ∃ c : Option Prop, stepQ P X env h0 t (fr + i) (os (fr + i)) o.op = some (c, r, nb) ∧ c.getD True) ∨
  (wantedA ops t o = some false ∧ r = .tp [] ∧ nb = none)

theorem good_put {i : Nat} {o : Oper} {t : Sl} {r : AV} {nb : Option Blk} {dst : Option Tmp} {v : AV} (h : ∀ d, dst = some d → d ∉ o.looksAt ops) :
    good P X env h0 ops os fr i o (putA t dst v) r nb ↔ good P X env h0 ops os fr i o t r nb := by
  unfold good
  rw [wantedA_put o h, stepQ_put o h]

theorem stepQ_heapless {op : Op} (h : heapless op = true) (h1 h2 : Heap) (t : Sl) (id : Nat) (ch : Ora) : stepQ P X env h1 t id ch op = stepQ P X env h2 t id ch op := by
  have e : ∀ hp, seen op hp = .nil := fun hp => by unfold seen; rw [h]
  cases op with
  | binOp op T x y => cases op <;> simp only [stepQ, altA, e] <;> rfl
  | unOp op T x => cases op <;> simp only [stepQ, altA, e] <;> rfl
  | makeFunc fn bs => cases fn <;> simp only [stepQ, altA, e] <;> rfl
  | _ => first | (simp [heapless] at h; done) | (simp only [stepQ, altA, e]; rfl)

def isSt (o : Oper) : Bool := match o.op with | .store .. => true | _ => false

/-- Does operation j wait for operation i, through others too? -/
def anc (md : Region.Mode) (ops : Array Oper) : Nat → Nat → Nat → Bool
  | 0, _, _ => false
  | d + 1, j, i => match ops[j]? with
    | some o => o.after.any fun e => Region.binds md e && (Nat.beq e.on i || anc md ops d e.on i)
    | none => false

/-- Stores wait for all that reads or makes memory; of two stores one waits for the other. -/
def memOK (md : Region.Mode) (ops : Array Oper) : Bool :=
  (List.range ops.size).all fun j => match ops[j]? with
    | some oj => !isSt oj || (List.range ops.size).all fun i => Nat.beq i j || (match ops[i]? with
      | some oi => heapless oi.op || anc md ops 6 j i || (isSt oi && anc md ops 6 i j)
      | none => true)
    | none => true

theorem memOK_spec {md : Region.Mode} (h : memOK md ops = true) {i j : Nat} {oi oj : Oper} (hj : ops[j]? = some oj) (hi : ops[i]? = some oi) (hne : i ≠ j) (hs : isSt oj = true) :
    heapless oi.op = true ∨ anc md ops 6 j i = true ∨ (isSt oi = true ∧ anc md ops 6 i j = true) := by
  unfold memOK at h
  have h1 := List.all_eq_true.1 h j (List.mem_range.2 (Array.getElem?_eq_some_iff.1 hj).1)
  simp only [hj, hs, Bool.not_true, Bool.false_or] at h1
  have h2 := List.all_eq_true.1 h1 i (List.mem_range.2 (Array.getElem?_eq_some_iff.1 hi).1)
  have hb : Nat.beq i j = false := by
    cases hb : Nat.beq i j with
    | false => rfl
    | true => exact absurd (Nat.eq_of_beq_eq_true hb) hne
  simp only [hi, hb, Bool.false_or, Bool.or_eq_true, Bool.and_eq_true] at h2
  rcases h2 with (h2 | h2) | h2
  · exact .inl h2
  · exact .inr (.inl h2)
  · exact .inr (.inr h2)

/-- What a listed, or ready, operation waits for is listed. -/
theorem anc_listed {md : Region.Mode} {listed : Array Bool} (hcl : ∀ j oj, ops[j]? = some oj → listed.getD j false = true → ∀ e ∈ oj.after, Region.binds md e = true → listed.getD e.on false = true) :
    ∀ (d j i : Nat), anc md ops d j i = true → (∀ oj, ops[j]? = some oj → ∀ e ∈ oj.after, Region.binds md e = true → listed.getD e.on false = true) → listed.getD i false = true
  | 0, j, i, h, _ => by simp [anc] at h
  | d + 1, j, i, h, hl => by
    unfold anc at h
    split at h
    · rename_i o ho
      obtain ⟨e, he, hb⟩ := Array.any_eq_true'.1 h
      simp only [Bool.and_eq_true, Bool.or_eq_true] at hb
      have hle := hl o ho e he hb.1
      rcases hb.2 with h2 | h2
      · rw [← Nat.eq_of_beq_eq_true h2]; exact hle
      · exact anc_listed hcl d e.on i h2 (fun ok hk => hcl e.on ok hk hle)
    · cases h

def qOpA (P : Program) (X : Rules P) (env : List Entry) (h0 : Heap) (ops : Array Oper) (os : Nat → Ora) (fr : Nat) (i : Nat) (o : Oper) (A A' : AA) : Prop :=
  (∃ r nb, good P X env h0 ops os fr i o A.t r nb ∧ A' = A.app o (fr + i) r nb) ∨
  (wantedA ops A.t o = some true ∧ ∃ T x y h', o.op = .store T x y ∧ storeA P A T x y = some h' ∧ A' = ⟨putA A.t o.dst (.tp []), h', A.d⟩)

theorem storeA_put {A : AA} {o : Oper} {T : TypeId} {x y : Operand} (ho : o.op = .store T x y) {dst : Option Tmp} {v : AV} (h : ∀ d, dst = some d → d ∉ o.looksAt ops) (hp : Heap) (ds ds' : List Nat) :
    storeA P ⟨putA A.t dst v, hp, ds⟩ T x y = storeA P ⟨A.t, hp, ds'⟩ T x y := by
  have hx : ∀ z ∈ o.op.operands, evA (putA A.t dst v) z = evA A.t z := fun z hz => evA_put fun d hd hzd => h d hd (by
    subst hzd
    exact List.mem_append_left _ (List.mem_filterMap.2 ⟨.tmp d, by simpa using hz, rfl⟩))
  unfold storeA
  simp only
  rw [hx x (by simp [ho, Op.operands]), hx y (by simp [ho, Op.operands])]

/-- A store and what makes no block of the store's: the one or the other first. -/
theorem storeA_upd {A : AA} {T : TypeId} {x y : Operand} {h' : Heap} (hs : storeA P A T x y = some h') {k : Nat} (hk : A.h.get k = none) (nb : Option Blk) :
    storeA P ⟨A.t, updH A.h k nb, A.d⟩ T x y = some (updH h' k nb) := by
  obtain ⟨id, off, cs, i, bs, t, cs', h1, h2, h3, h4, h5, h6, h7, rfl⟩ := storeA_spec hs
  have hne : id ≠ k := fun e => by rw [e, hk] at h6; cases h6
  cases nb with
  | none => exact hs
  | some c =>
    have := storeA_mk (P := P) (A := ⟨A.t, A.h.put k c, A.d⟩) h1 h2 h3 h4 h5 (by simp only; rw [Heap.put_ne _ hne]; exact h6) h7
    simp only [updH]
    rw [this]
    simp only [Option.some.injEq]
    exact Heap.put_comm _ _ (Ne.symm hne)

theorem good_new {i : Nat} {o : Oper} {t : Sl} {r : AV} {nb : Option Blk} (h : good P X env h0 ops os fr i o t r nb) (hh : heapless o.op = true) : nb = none := by
  rcases h with ⟨_, c, hs, _⟩ | ⟨_, _, e⟩
  · unfold stepQ at hs
    split at hs
    · rename_i hop; rw [hop] at hh; simp [heapless] at hh
    · rename_i hop; rw [hop] at hh; simp [heapless] at hh
    · rename_i hop; rw [hop] at hh; simp [heapless] at hh
    · rename_i hop; rw [hop] at hh; simp [heapless] at hh
    · cases hs
    · split at hs
      · split at hs
        · simp only [Option.some.injEq, Prod.mk.injEq] at hs; exact hs.2.2.symm
        · cases hs
      · cases hs
  · exact e

theorem qOpA_comm {i j : Nat} {oi oj : Oper} {A Ai Aij : AA} (hij : i ≠ j) (hap : oi.apart ops oj = true)
    (hmem : (isSt oi = false ∧ isSt oj = false) ∨ (isSt oi = true ∧ heapless oj.op = true) ∨ (isSt oj = true ∧ heapless oi.op = true)) (hfj : A.h.get (fr + j) = none)
    (h1 : qOpA P X env h0 ops os fr i oi A Ai) (h2 : qOpA P X env h0 ops os fr j oj Ai Aij) :
    ∃ Aj, qOpA P X env h0 ops os fr j oj A Aj ∧ qOpA P X env h0 ops os fr i oi Aj Aij := by
  obtain ⟨s1, s2, s3⟩ := Oper.apart_spec hap
  rcases h1 with ⟨ri, ni, gi, rfl⟩ | ⟨wi, T, x, y, h', hop, hst, rfl⟩
  · rcases h2 with ⟨rj, nj, gj, rfl⟩ | ⟨wj, T, x, y, h', hop, hst, rfl⟩
    · refine ⟨A.app oj (fr + j) rj nj, .inl ⟨rj, nj, (good_put s1).1 gj, rfl⟩, .inl ⟨ri, ni, (good_put s3).2 gi, ?_⟩⟩
      simp only [AA.app, AA.mk.injEq]
      exact ⟨putA_comm s2, updH_comm (by omega) _ _, trivial⟩
    · -- the store second: the first is heapless
      have hsj : isSt oj = true := by simp [isSt, hop]
      have hhi : heapless oi.op = true := by
        rcases hmem with h | h | h
        · rw [h.2] at hsj; cases hsj
        · rw [hop] at h; simp [heapless] at h
        · exact h.2
      have hn := good_new gi hhi
      subst hn
      simp only [AA.app] at wj hst
      rw [wantedA_put oj s1] at wj
      have hst' : storeA P A T x y = some h' := by
        have := storeA_put (P := P) (A := A) (ops := ops) hop (v := ri) s1 A.h A.d A.d
        rw [show updH A.h (fr + i) none = A.h from rfl] at hst
        rw [this] at hst
        exact hst
      refine ⟨⟨putA A.t oj.dst (.tp []), h', A.d⟩, .inr ⟨wj, T, x, y, h', hop, hst', rfl⟩, .inl ⟨ri, none, (good_put s3).2 gi, ?_⟩⟩
      simp only [AA.app, AA.mk.injEq]
      exact ⟨putA_comm s2, rfl, trivial⟩
  · rcases h2 with ⟨rj, nj, gj, rfl⟩ | ⟨wj, T', x', y', h'', hop', hst', rfl⟩
    · simp only at gj
      refine ⟨A.app oj (fr + j) rj nj, .inl ⟨rj, nj, (good_put s1).1 gj, rfl⟩, .inr ⟨?_, T, x, y, updH h' (fr + j) nj, hop, ?_, ?_⟩⟩
      · simp only [AA.app]; rw [wantedA_put oi s3]; exact wi
      · simp only [AA.app]
        rw [storeA_put (P := P) (A := A) (ops := ops) hop s3 _ _ A.d]
        exact storeA_upd hst hfj nj
      · simp only [AA.app, AA.mk.injEq]
        exact ⟨putA_comm s2, trivial, trivial⟩
    · exfalso
      have hsi : isSt oi = true := by simp [isSt, hop]
      have hsj : isSt oj = true := by simp [isSt, hop']
      rcases hmem with h | h | h
      · rw [h.1] at hsi; cases hsi
      · rw [hop'] at h; simp [heapless] at h
      · rw [hop] at h; simp [heapless] at h
end

section
variable {P : Program} {X : Rules P} {env : List Entry} {h0 : Heap} {ops : Array Oper} {os : Nat → Ora} {fr : Nat}

/-! ### Whatever order the head's operations are taken in -/
variable {md : Region.Mode} {n : Nat}

def wpAnyA (P : Program) (X : Rules P) (env : List Entry) (h0 : Heap) (md : Region.Mode) (ops : Array Oper) (os : Nat → Ora) (fr n : Nat) (L : Array Bool → AA → Prop) : Nat → Array Bool → AA → Prop
  | 0, listed, A => L listed A
  | f + 1, listed, A =>
    Region.ready md ops listed ≠ [] ∧ ∀ i ∈ Region.ready md ops listed, i < n ∧ ∃ o A', ops[i]? = some o ∧ qOpA P X env h0 ops os fr i o A A' ∧ wpAnyA P X env h0 md ops os fr n L f (listed.setIfInBounds i true) A'

theorem wpAnyA_first {i : Nat} {oi : Oper} {L : Array Bool → AA → Prop} (hmo : memOK md ops = true) (hi : ops[i]? = some oi)
    (htw : ∀ (i : Nat) (listed : Array Bool), HeadInv md ops n listed → i < n → listed.getD i true = false → ∀ t, n ≤ t → t ∉ Region.ready md ops listed) (hin : i < n)
    (hdone : ∀ listed A, L listed A → ∀ j ∈ Region.ready md ops listed, n ≤ j) :
    ∀ (f : Nat) (listed : Array Bool) (A Ai : AA), HeadInv md ops n listed → (∀ j, listed.getD j true = false → A.h.get (fr + j) = none) →
      (∀ j oj, ops[j]? = some oj → j ≠ i → listed.getD j true = false → (∀ e ∈ oj.after, Region.binds md e = true → e.on ≠ i) → oi.apart ops oj = true) →
      i ∈ Region.ready md ops listed → qOpA P X env h0 ops os fr i oi A Ai →
      wpAnyA P X env h0 md ops os fr n L f (listed.setIfInBounds i true) Ai → wpAnyA P X env h0 md ops os fr n L (f + 1) listed A := by
  intro f
  induction f with
  | zero =>
    intro listed A Ai inv _ _ hr hy H
    have hun := (mem_ready.1 hr).1
    refine ⟨fun h => (by rw [h] at hr; cases hr), fun j hj => ?_⟩
    have hjn : j < n := by
      rcases Nat.lt_or_ge j n with h | h
      · exact h
      · exact absurd hj (htw i listed inv hin hun j h)
    refine ⟨hjn, ?_⟩
    by_cases hji : j = i
    · subst hji; exact ⟨oi, Ai, hi, hy, H⟩
    · have := hdone _ _ H j (ready_mono hj hji)
      omega
  | succ f ih =>
    intro listed A Ai inv hfree0 hfree hr hy H
    have hun := (mem_ready.1 hr).1
    refine ⟨fun h => (by rw [h] at hr; cases hr), fun j hj => ?_⟩
    have hjn : j < n := by
      rcases Nat.lt_or_ge j n with h | h
      · exact h
      · exact absurd hj (htw i listed inv hin hun j h)
    refine ⟨hjn, ?_⟩
    by_cases hji : j = i
    · subst hji; exact ⟨oi, Ai, hi, hy, H⟩
    · obtain ⟨oj', Aij, hoj', hq, hrest⟩ := (H.2 j (ready_mono hj hji)).2
      obtain ⟨hjun, oj, hoj, hall⟩ := mem_ready.1 hj
      have : oj' = oj := Option.some.inj (hoj'.symm.trans hoj)
      subst this
      have hnot : ∀ e ∈ oj'.after, Region.binds md e = true → e.on ≠ i := fun e he hb heq => by
        have h1 := hall e he hb
        rw [heq, getD_both hun] at h1
        cases h1
      have hnot' : ∀ e ∈ oi.after, Region.binds md e = true → listed.getD e.on false = true := by
        obtain ⟨_, oi', hoi', hall'⟩ := mem_ready.1 hr
        have : oi' = oi := Option.some.inj (hoi'.symm.trans hi)
        subst this
        exact hall'
      have nanc : anc md ops 6 j i = false := by
        cases ha : anc md ops 6 j i with
        | false => rfl
        | true =>
          have := anc_listed inv.closed 6 j i ha (fun ok hk e he hb => by
            have : ok = oj' := Option.some.inj (hk.symm.trans hoj)
            subst this
            exact hall e he hb)
          rw [getD_both hun] at this
          cases this
      have nanc' : anc md ops 6 i j = false := by
        cases ha : anc md ops 6 i j with
        | false => rfl
        | true =>
          have := anc_listed inv.closed 6 i j ha (fun ok hk e he hb => by
            have : ok = oi := Option.some.inj (hk.symm.trans hi)
            subst this
            exact hnot' e he hb)
          rw [getD_both hjun] at this
          cases this
      have hmem : (isSt oi = false ∧ isSt oj' = false) ∨ (isSt oi = true ∧ heapless oj'.op = true) ∨ (isSt oj' = true ∧ heapless oi.op = true) := by
        cases hsi : isSt oi with
        | true =>
          rcases memOK_spec hmo hi hoj hji hsi with h | h | h
          · exact .inr (.inl ⟨rfl, h⟩)
          · rw [nanc'] at h; cases h
          · rw [nanc] at h; cases h.2
        | false =>
          cases hsj : isSt oj' with
          | false => exact .inl ⟨rfl, rfl⟩
          | true =>
            rcases memOK_spec hmo hoj hi (Ne.symm hji) hsj with h | h | h
            · exact .inr (.inr ⟨rfl, h⟩)
            · rw [nanc] at h; cases h
            · rw [nanc'] at h; cases h.2
      obtain ⟨Aj, g1, g2⟩ := qOpA_comm (Ne.symm hji) (hfree j oj' hoj hji hjun hnot) hmem (hfree0 j hjun) hy hq
      have hfreeJ : ∀ k, (listed.setIfInBounds j true).getD k true = false → Aj.h.get (fr + k) = none := fun k hk => by
        have hkj : j ≠ k := by
          intro e
          subst e
          have hlt : j < listed.size := by rw [inv.size]; exact (Array.getElem?_eq_some_iff.1 hoj).1
          simp [hlt] at hk
        rw [getD_set_ne true hkj] at hk
        have hn := hfree0 k hk
        rcases g1 with ⟨r, nb, _, rfl⟩ | ⟨_, T, x, y, h', _, hst, rfl⟩
        · cases nb with
          | none => exact hn
          | some blk =>
            show (A.h.put (fr + j) blk).get (fr + k) = none
            rw [Heap.put_ne _ (by omega)]; exact hn
        · exact storeA_fresh hst hn
      have hfree' : ∀ k ok, ops[k]? = some ok → k ≠ i → (listed.setIfInBounds j true).getD k true = false →
          (∀ e ∈ ok.after, Region.binds md e = true → e.on ≠ i) → oi.apart ops ok = true := fun k ok hk hki hun' hno => by
        refine hfree k ok hk hki ?_ hno
        by_cases hjk : j = k
        · subst hjk; exact hjun
        · rw [getD_set_ne true hjk] at hun'; exact hun'
      refine ⟨oj', Aj, hoj, g1, ih (listed.setIfInBounds j true) Aj Aij (inv.set hj hjn) hfreeJ hfree' (ready_mono hr (Ne.symm hji)) g2 ?_⟩
      rw [Array.setIfInBounds_comm _ _ hji]
      exact hrest

/-- The order of the text. -/
def QLex (P : Program) (X : Rules P) (env : List Entry) (h0 : Heap) (ops : Array Oper) (os : Nat → Ora) (fr : Nat) : List Oper → Nat → AA → AA → Prop
  | [], _, A, A' => A' = A
  | o :: l, i, A, A' => ∃ A1, qOpA P X env h0 ops os fr i o A A1 ∧ QLex P X env h0 ops os fr l (i + 1) A1 A'

theorem qOpA_free {i : Nat} {o : Oper} {A A1 : AA} {listed : Array Bool} (hi : i < listed.size) (hq : qOpA P X env h0 ops os fr i o A A1) (hf : ∀ j, listed.getD j true = false → A.h.get (fr + j) = none) :
    ∀ k, (listed.setIfInBounds i true).getD k true = false → A1.h.get (fr + k) = none := fun k hk => by
  have hki : i ≠ k := by
    intro e
    subst e
    simp [hi] at hk
  rw [getD_set_ne true hki] at hk
  have hn := hf k hk
  rcases hq with ⟨r, nb, _, rfl⟩ | ⟨_, T, x, y, h', _, hst, rfl⟩
  · cases nb with
    | none => exact hn
    | some blk =>
      show (A.h.put (fr + i) blk).get (fr + k) = none
      rw [Heap.put_ne _ (by omega)]; exact hn
  · exact storeA_fresh hst hn

theorem wpAnyA_lex {g : Nat} {A' : AA} (hmo : memOK md ops = true)
    (htw : ∀ (i : Nat) (listed : Array Bool), HeadInv md ops n listed → i < n → listed.getD i true = false → ∀ t, n ≤ t → t ∉ Region.ready md ops listed) :
    ∀ (l : List Oper) (k : Nat) (listed : Array Bool) (A : AA), (∀ j, j < l.length → l[j]? = ops[k + j]?) → k + l.length = n → HeadInv md ops n listed → (∀ j, listed.getD j true = false → A.h.get (fr + j) = none) →
    Region.lexHead md ops g l.length k listed = true → QLex P X env h0 ops os fr l k A A' →
    wpAnyA P X env h0 md ops os fr n (fun listed' A'' => Region.seqB md ops g n listed' = true ∧ A'' = A') l.length listed A
  | [], k, listed, A, _, hk, _, _, hB, h => by
    have : k = n := by simpa using hk
    subst this
    exact ⟨by simpa [Region.lexHead] using hB, h.symm⟩
  | o :: l, k, listed, A, hl, hk, inv, hf0, hB, h => by
    have h0 : ops[k]? = some o := by simpa using (hl 0 (by simp)).symm
    simp only [List.length_cons, Region.lexHead, Bool.and_eq_true] at hB
    obtain ⟨⟨hr, hf⟩, hB'⟩ := hB
    have hkn : k < n := by simp only [List.length_cons] at hk; omega
    have hr' : k ∈ Region.ready md ops listed := by simpa using hr
    obtain ⟨A1, hq, hrest⟩ := h
    have hlt : k < listed.size := by rw [inv.size]; exact (Array.getElem?_eq_some_iff.1 h0).1
    exact wpAnyA_first hmo h0 htw hkn (fun listed' A'' hL => seqB_ready hL.1) l.length listed A A1 inv hf0 (Region.free_spec h0 hf) hr' hq
      (wpAnyA_lex hmo htw l (k + 1) _ _ (fun j hj => by have := hl (j + 1) (by simp; omega); simpa [Nat.add_assoc, Nat.add_comm 1 j] using this) (by simp only [List.length_cons] at hk; omega) (inv.set hr' hkn) (qOpA_free hlt hq hf0) hB' hrest)

end
end Go.Ev
