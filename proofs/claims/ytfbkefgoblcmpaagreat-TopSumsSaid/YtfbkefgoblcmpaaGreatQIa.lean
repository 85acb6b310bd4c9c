/- Pruned: Ia. -/
import Derived.Test.YtfbkefgoblcmpaaGreatQGa
import Derived.Test.YtfbkefgoblcmpaaGreatQE2
import Derived.Maps.Keyed
set_option linter.unusedSimpArgs false
set_option linter.unusedVariables false
namespace Go.Ev
open Go.RowKit
def DU (n m : Nat) : Array Bool := ((List.range n).map fun i => Nat.testBit m i).toArray
def RN (P : Program) (X : Rules P) (env : List Entry) (inl : Inl) (os : Nat -> Ora) (ops : Array Oper) (fr fb : Nat) (S : Nat -> LState) (kk : Nat -> Nat -> Nat) (tau : Nat -> Nat -> List (Nat × Nat)) (m i m' : Nat) : Option Prop :=
 match ops[i]? with
 | none => none
 | some o =>
  match CT (kk m i) (S m).hp, Dk P X env inl (fun _ => os (fr + i)) ops (kk m i) o (S m).aa True with
  | true, some (_, A1, ob1) =>
   (match tau m i with
   | [] => (match zH fb A1 (S m') [] && nmL (S m') with
    | true => some (ob1 /\ Gx A1 (Nb (S m').sl) (Mn (S m').hp) [] = some (S m'))
    | false => none)
   | t => (match zH fb A1 (S m') t with
    | true => some (ob1 /\ DP A1 (S m') t)
    | false => none))
  | _, _ => none
def IF (P : Program) (X : Rules P) (env : List Entry) (inl : Inl) (os : Nat -> Ora) (ops : Array Oper) (fr fb : Nat) (S : Nat -> LState) (kk : Nat -> Nat -> Nat) (tau : Nat -> Nat -> List (Nat × Nat)) (Ms : List (Nat × Nat)) (full : Nat) : Nat × Nat -> Option Prop
 | (0, m) => match Nat.beq m full && (Region.ready .any ops (DU ops.size m)).isEmpty with | true => some True | false => none
 | (f + 1, m) => match Region.ready .any ops (DU ops.size m) with
  | [] => none
  | i :: is => goL (fun i => match Ms.contains (f, m + 2 ^ i) && decide ((DU ops.size m).setIfInBounds i true = DU ops.size (m + 2 ^ i)) with
   | true => RN P X env inl os ops fr fb S kk tau m i (m + 2 ^ i)
   | false => none) (i :: is)
def Ce (step : Nat × Nat -> Option Prop) : List (Nat × Nat) -> Option Prop
 | [] => some True
 | x :: l => match step x, Ce step l with | some p, some q => some (p /\ q) | _, _ => none
def JM (P : Program) (X : Rules P) (env : List Entry) (inl : Inl) (os : Nat -> Ora) (fb : Nat) (c : Code) (k : Nat) (S : Nat -> LState) (kk : Nat -> Nat -> Nat) (tau : Nat -> Nat -> List (Nat × Nat)) (Ms : List (Nat × Nat)) (full : Nat) : Option Prop :=
 match c with
 | .region _ ops true => (match P.follows .mixedOrders && Ms.contains (ops.size, 0) && decide (DU ops.size 0 = Array.replicate ops.size false) with
  | true => Ce (IF P X env inl os ops k fb S kk tau Ms full) Ms
  | false => none)
 | _ => none
section
variable {P : Program} {X : Rules P} {env : List Entry} {inl : Inl} {os : Nat -> Ora} {ops : Array Oper} {fr fb : Nat} {S : Nat -> LState} {kk : Nat -> Nat -> Nat} {tau : Nat -> Nat -> List (Nat × Nat)} {Ms : List (Nat × Nat)} {full : Nat}
theorem zc {step : Nat × Nat -> Option Prop} : ∀ {l : List (Nat × Nat)} {p : Prop}, Ce step l = some p -> p -> ∀ x, x ∈ l -> ∃ q, step x = some q /\ q
 | [], p, h, hp, i, hi => by cases hi
 | j :: l, p, h, hp, i, hi => by
  simp only [Ce] at h
  split at h
  ·rename_i q1 q2 h1 h2
   simp only [oi0] at h; subst h
   rcases List.mem_cons.1 hi with rfl | hi
   ·exact ⟨q1, h1, hp.1⟩
   ·exact zc h2 hp.2 i hi
  ·cases h
theorem Df (henv : sW P env) (hinl : InlOK P inl) {p : Prop} (h : Ce (IF P X env inl os ops fr fb S kk tau Ms full) Ms = some p) (hp : p) : ∀ (f m : Nat), (f, m) ∈ Ms →
  ∀ (w0 : World) {F : Fence} (hF : rT F) (n : Nat) (Q : Exit -> Act -> World -> Prop) ρ a w, Rel w0 ρ (S m).aa a w -> (∀ ρ' a' w', ρ.leB fb ρ' -> Rel w0 ρ' (S full).aa a' w' -> Q .normal a' w') -> wpAnyIn F n P .any ops Q f (DU ops.size m) a w
 | 0, m, hm => by
  intro w0 F hF n Q ρ a w hR hQ
  obtain ⟨q, h1, h2⟩ := zc h hp _ hm
  simp only [IF] at h1
  split at h1
  ·rename_i hb
   simp only [Bool.and_eq_true] at hb
   have e := Nat.eq_of_beq_eq_true hb.1
   subst e
   exact ⟨List.isEmpty_iff.1 hb.2, hQ ρ a w (ρ.le_refl.leB fb) hR⟩
  ·cases h1
 | f + 1, m, hm => by
  intro w0 F hF n Q ρ a w hR hQ
  obtain ⟨q, h1, h2⟩ := zc h hp _ hm
  simp only [IF] at h1
  split at h1
  ·cases h1
  ·rename_i i0 is hr
   refine ⟨fun h0 => (by rw [hr] at h0; cases h0), fun i hi => ?_⟩
   rw [hr] at hi
   obtain ⟨q1, g1, g2⟩ := Ix h1 h2 i hi
   split at g1
   ·rename_i hc
    simp only [Bool.and_eq_true, decide_eq_true_eq] at hc
    have hmem : (f, m + 2 ^ i) ∈ Ms := by simpa using hc.1
    unfold RN at g1
    split at g1
    ·cases g1
    ·rename_i o ho
     split at g1
     ·rename_i k1 A1 ob1 hlt hs
      have key : ob1 /\ (∀ ρ' a' w', Rel w0 ρ' A1 a' w' -> ∃ ρ'', ρ'.leB fb ρ'' /\ Rel w0 ρ'' (S (m + 2 ^ i)).aa a' w') := by
       split at g1
       ·split at g1
        ·rename_i hb
         simp only [oi0] at g1; subst g1
         simp only [Bool.and_eq_true] at hb
         exact ⟨g2.1, fun ρ' a' w' hR' => wm hb.1 (xD g2.2 hb.2) hR'⟩
        ·cases g1
       ·split at g1
        ·rename_i hb
         simp only [oi0] at g1; subst g1
         exact ⟨g2.1, fun ρ' a' w' hR' => wm hb g2.2 hR'⟩
        ·cases g1
      obtain ⟨f1, s1⟩ := AH (w0 := w0) henv hinl hs key.1 (fun j hj => un hlt j hj)
      unfold wpOpIn
      simp only [ho]
      refine s1 hF n Q _ ρ a w hR fun ρ' a' w' hl hR' => ?_
      obtain ⟨ρ'', e1, e2⟩ := key.2 ρ' a' w' hR'
      rw [hc.2]
      exact Df henv hinl h hp f (m + 2 ^ i) hmem w0 hF n Q ρ'' a' w' e2 fun ρ3 a3 w3 hl3 hR3 => hQ ρ3 a3 w3 (Names.leB_trans (hl.leB fb) (Names.leB_trans e1 hl3)) hR3
     ·cases g1
   ·cases g1
theorem r8 (henv : sW P env) (hinl : InlOK P inl) {rd : Bool} {c : Code} {k : Nat} {p : Prop} (h : JM P X env inl os fb c k S kk tau Ms full = some p) (hp : p) : Sound P fb rd c (S 0).aa .normal (S full).aa := by
 unfold JM at h
 split at h
 ·rename_i id ops
  split at h
  ·rename_i hb
   simp only [Bool.and_eq_true, decide_eq_true_eq] at hb
   intro w0 F hF hrd n Q ρ a w hR hQ
   have hm : (ops.size, 0) ∈ Ms := by simpa using hb.1.2
   have := Df henv hinl h hp ops.size 0 hm w0 hF n Q ρ a _ hR.drew hQ
   rw [hb.2] at this
   exact wpIn_region_any hb.1.1 this
  ·cases h
 ·cases h
end
end Go.Ev
set_option linter.unusedSimpArgs false
set_option linter.unusedVariables false
namespace Go.Ev
open Go.RowKit
def Tells (P : Program) (f : FuncId) (args : List XV) (r : AV) : Prop := ∃ v, r.val? = some v /\ ∀ w vs, XReps w args vs -> Comes P f vs w v
theorem qT {P : Program} {e : Entry} (h : e.OK P) {args : List XV} {r : AV} (he : e.fn (fun _ => 0) args = [(none, r)]) : Tells P e.f args r :=
 h (fun _ => 0) args none r (by rw [he]; exact List.mem_singleton.2 rfl) trivial
theorem Fx {P : Program} {e : Entry} (h : e.OK P) {args : List XV} {r : AV} {c : Prop} (he : e.fn (fun _ => 0) args = [(some c, r)]) (hc : c) : Tells P e.f args r :=
 h (fun _ => 0) args (some c) r (by rw [he]; exact List.mem_singleton.2 rfl) hc
theorem qi {P : Program} {f : FuncId} {args : List XV} {r : AV} (he : ∀ vs w, (callFunc f vs).run P w = .ok (.enter f vs) w) (h : Gives P f args r) : Tells P f args r := by
 obtain ⟨v, hv, hx⟩ := h
 exact ⟨v, hv, fun w vs hr => .inr ⟨he _ _, hx w vs hr⟩⟩
def eTo (f : FuncId) (l : List (List XV × AV)) : Entry := ⟨f, fun _ a => l.map fun q => (some (a = q.1), q.2)⟩
theorem qf {P : Program} {f : FuncId} {l : List (List XV × AV)} (h : ∀ q ∈ l, Tells P f q.1 q.2) : (eTo f l).OK P := by
 intro hi args c r hm hc
 simp only [eTo, List.mem_map, pi0] at hm
 obtain ⟨q, hq, rfl, rfl⟩ := hm
 simp only [Option.getD_some] at hc
 subst hc
 exact h q hq
theorem qw {P : Program} {f : FuncId} : ∀ q ∈ ([] : List (List XV × AV)), Tells P f q.1 q.2 := fun q hq => by cases hq
theorem qe {P : Program} {f : FuncId} {a : List XV} {r : AV} {l : List (List XV × AV)} (h : Tells P f a r) (hl : ∀ q ∈ l, Tells P f q.1 q.2) : ∀ q ∈ (a, r) :: l, Tells P f q.1 q.2 := fun q hq => by
 rcases List.mem_cons.1 hq with rfl | hq
 ·exact h
 ·exact hl q hq
end Go.Ev
set_option linter.unusedSimpArgs false
set_option linter.unusedVariables false
set_option linter.unusedSectionVars false
namespace Go.Ev
open Go.RowKit
variable {α β : Type} [DecidableEq α] {kf : α -> Value} {vf : β -> Value} {P : Program}
structure KeyOK (P : Program) (kt : TypeId) (kf : α -> Value) : Prop where
 inj : ∀ a b, kf a = kf b -> a = b
 check : ∀ (w : World) (em : Bool) (a : α), (Instr.checkKey em 10000 kt (kf a)).run P w = .ok () w
 find : ∀ (w : World) (a : α) (es : List MapEntry), (∀ e ∈ es, ∃ b, e.key = kf b) →
  ((Instr.findKey kt (kf a) es).run P w = .ok none w /\ ∀ e ∈ es, e.key ≠ kf a) ∨ ∃ j e, (Instr.findKey kt (kf a) es).run P w = .ok (some (j, e.val)) w /\ es[j]? = some e /\ e.key = kf a
 stays : ∀ (w : World) (a : α), (Instr.keyThatStays (kf a) (kf a)).run P w = .ok (kf a) w
def WP (P : Program) (T : TypeId) (o : Obj) (k : Value) (ok : Bool) (x : Value) : Prop :=
 ∀ (w : World) (r : Nat), w.heap[r]? = some o -> (Instr.lookup T (.map (some r)) k ok).run P w = .ok x w
def Z9 (P : Program) (T : TypeId) (o : Obj) (k v : Value) (o' : Obj) : Prop :=
 ∀ (w : World) (r : Nat), w.heap[r]? = some o -> (Instr.mapUpdate T (.map (some r)) k v).run P w = .ok () { w with heap := w.heap.setIfInBounds r o' }
def ZA (P : Program) (o : Obj) (n : Nat) : Prop := ∃ es c, o = .map es c /\ es.size = n
end Go.Ev
set_option linter.unusedSimpArgs false
set_option linter.unusedVariables false
namespace Go.Ev
open Go.RowKit
def KL (P : Program) (T : TypeId) : Option (List K) :=
 match AO P 16 T with
 | some ks => match decide (ks.length = P.cellsOf T) && P.keyTypeAt 16 T && !P.eqGuardType P.depth T && (match P.underlying T with | some (.array _ _) | some (.struct _) => true | _ => false) with
  | true => some ks
  | false => none
 | none => none
theorem Oi {P : Program} {T : TypeId} {ks : List K} (h : KL P T = some ks) {l m : List Value} (f1 : Fit l ks) (f2 : Fit m ks) (w : World) (X Y : Operand) (r : Bool) (hr : (r = true) ↔ l = m) :
  (do eqGuard .neq T X Y (.agg l.toArray) (.agg m.toArray); binOp .neq T (.agg l.toArray) (.agg m.toArray)).run P w = .ok (.bool (!r)) w := by
 unfold KL at h
 split at h
 ·rename_i ks' hk
  split at h
  ·rename_i hb
   simp only [oi0] at h
   subst h
   simp only [Bool.and_eq_true, decide_eq_true_eq, Bool.not_eq_true'] at hb
   obtain ⟨⟨⟨h0, h3⟩, h4⟩, h5⟩ := hb
   have formed : ∀ l : List Value, Fit l ks' -> Value.formed P T (.agg l.toArray) = true := by
    intro l hl
    have hc : l.length = P.cellsOf T := by rw [hl.length, h0]
    split at h5
    ·rename_i hu; simp [Value.formed, hu, hc]
    ·rename_i hu; simp [Value.formed, hu, hc]
    ·cases h5
   obtain ⟨r', e1, e2⟩ := run_equalIn_deep (P := P) 9984 16 T h3 w 16 16 (.agg l.toArray) (.agg m.toArray) (l.map litV) (m.map litV) (formed _ f1) (formed _ f2)
    (by simpa [Value.cells] using sO 16 T ks' hk _ f1) (by simpa [Value.cells] using sO 16 T ks' hk _ f2)
   have hrr : r' = r := by
    rw [Bool.eq_iff_iff, e2, hr]
    exact ⟨fun e => zI f1 f2 e, fun e => by rw [e]⟩
   subst hrr
   have e1' : (Op.equal T (.agg l.toArray) (.agg m.toArray)).run P w = .ok r' w := e1
   have g : ∀ op, (eqGuard op T X Y (.agg l.toArray) (.agg m.toArray)).run P w = .ok () w := by
    intro op
    cases op <;> first | rfl | simp [eqGuard, h4]
   simp only [Sem.run_bind, g, Result.andThen_ok]
   simp [binOp, e1']
  ·cases h
 ·cases h
def ZS (P : Program) : QRule P where
 fn ora h avs op := match op, avs with
  | .binOp .neq T _ _ _, [.ag a, .ag b] => (match KL P T, pureC a, pureC b with
   | some ks, true, true => [(some (Fit (flat a) ks /\ flat a = flat b), .v (.bool false))]
   | _, _, _ => [])
  | _, _ => []
 nd ora h avs op k p hk c e := by subst e; simp at hk
 ok ora h avs op k c r hk hc := by
  intro B ρ w a o ho hr hh
  split at hk
  ·rename_i T x y yt cs ds
   split at hk
   ·rename_i ks hT hp hp'
    have e := sf hk
    simp only [pi0] at e
    obtain ⟨rfl, rfl⟩ := e
    simp only [Option.getD_some] at hc
    obtain ⟨hf, hs⟩ := hc
    simp only [Op.operands, List.map_cons, List.map_nil, Reps, Rep] at hr
    obtain ⟨u, r1, e1, ⟨hd, rfl⟩, v, r2, e2, ⟨hd', rfl⟩, e3⟩ := hr
    subst e2
    subst e3
    simp only [List.cons.injEq, and_true] at e1
    have e1 : a.eval x = .agg (flatR ρ cs).toArray /\ a.eval y = .agg (flatR ρ ds).toArray := by simpa using e1
    have hrun := Oi (P := P) hT hf (hs ▸ hf) w x y true ⟨fun _ => hs, fun _ => rfl⟩
    refine ⟨.bool false, ?_, rfl⟩
    simp only [execOp, ho, e1.1, e1.2, (qg ρ hp).1, (qg ρ hp').1]
    rw [Sem.run_bind, hrun]
    rfl
   ·cases k <;> cases hk
  ·cases k <;> cases hk
end Go.Ev
set_option linter.unusedSimpArgs false
set_option linter.unusedVariables false
set_option linter.unusedSectionVars false
namespace Go.Ev
open Go.RowKit
variable {P : Program}
def Xv (P : Program) (op : Op) (xs : List Value) (x : Value) : Prop :=
 ∀ (a : Act) (o : Oper) (w : World), o.op = op -> op.operands.toList.map a.eval = xs -> (execOp a.eval o).run P w = .ok (.value x) w
def Sj : Op -> Bool
 | .binOp .. => true
 | .convert .. => true
 | _ => false
def Zv (P : Program) : QRule P where
 fn ora h avs op := match Sj op, AV.vals? avs, (ora.av 0).val? with
  | true, some xs, some x => [(some (Xv P op xs x), ora.av 0)]
  | _, _, _ => []
 nd ora h avs op k p hk c e := by subst e; simp [Sj] at hk
 ok ora h avs op k c r hk hc := by
  intro B ρ w a o ho hr hh
  split at hk
  ·rename_i xs x _ hxs hx
   have e := sf hk
   simp only [pi0] at e
   obtain ⟨rfl, rfl⟩ := e
   simp only [Option.getD_some] at hc
   have e1 := Reps.of_vals hr hxs
   exact ⟨x, hc a o w ho e1, ui hx⟩
  ·simp at hk
def YM (P : Program) : QRule P where
 fn ora h avs op := match op, avs with
  | .lookup T _ _ ok, [.mp id, y] => (match h.get id, y.val?, (ora.av 0).val? with
   | some (.ob o), some k, some x => [(some (WP P T o k ok x), ora.av 0)]
   | _, _, _ => [])
  | _, _ => []
 nd ora h avs op k p hk c e := by subst e; simp at hk
 ok ora h avs op k c r hk hc := by
  intro B ρ w a o ho hr hh
  split at hk
  ·rename_i T x y ok id yv
   split at hk
   ·rename_i ob kv xv hblk hkv hxv
    have e := sf hk
    simp only [pi0] at e
    obtain ⟨rfl, rfl⟩ := e
    simp only [Option.getD_some] at hc
    simp only [Op.operands, List.map_cons, List.map_nil, Reps, Rep] at hr
    obtain ⟨u, r1, e1, ⟨v, hv, rfl⟩, v2, r2, rfl, hy, rfl⟩ := hr
    simp at e1
    have e2 := hy.of_val hkv
    subst e2
    obtain ⟨v', g1, g2⟩ := hh.at_ id _ hblk
    rw [hv] at g1; simp only [oi0] at g1; subst g1
    refine ⟨xv, ?_, ui hxv⟩
    simp only [execOp, ho, e1.1, e1.2, Sem.run_bind, hc w v.1 g2.2.2]
    rfl
   ·simp at hk
  ·simp at hk
def WW (P : Program) : QRule P where
 fn ora h avs op := match op, avs with
  | .call { callee := .builtin .len, args := args, argTypes := argTypes }, [.mp id] => (match h.get id, argTypes.toList with
   | some (.ob o), [T] => (match P.underlying T with
    | some (.map _ _) => [(some (ZA P o (ora.hi 0)), .v (.int .i64 ((ora.hi 0 : Nat) : Int)))]
    | _ => [])
   | _, _ => [])
  | _, _ => []
 nd ora h avs op k p hk c e := by subst e; simp at hk
 ok ora h avs op k c r hk hc := by
  intro B ρ w a o ho hr hh
  split at hk
  ·rename_i args argTypes id
   split at hk
   ·rename_i ob T hblk hT
    split at hk
    ·rename_i kt et hu
     have e := sf hk
     simp only [pi0] at e
     obtain ⟨rfl, rfl⟩ := e
     simp only [Option.getD_some] at hc
     obtain ⟨es, cl, rfl, hn⟩ := hc
     have ha : args.toList.map a.eval = (Op.operands (.call { callee := .builtin .len, args := args, argTypes := argTypes })).toList.map a.eval := by simp [Op.operands, Call.operands]
     rw [← ha] at hr
     simp only [Reps, Rep] at hr
     obtain ⟨u, r1, e1, ⟨v, hv, rfl⟩, rfl⟩ := hr
     obtain ⟨v', g1, g2⟩ := hh.at_ id _ hblk
     rw [hv] at g1; simp only [oi0] at g1; subst g1
     have e2 : args.map a.eval = #[.map (some v.1)] := by apply Array.toList_inj.1; simpa using e1
     have e3 : argTypes = #[T] := by apply Array.toList_inj.1; simpa using hT
     refine ⟨.int .i64 ((ora.hi 0 : Nat) : Int), ?_, rfl⟩
     have hg := MapKept.run_getObj_map (P := P) g2.2.2
     simp [execOp, ho, resolve, invoke, builtin, e2, e3, Builtin.len_, run_underlying hu, hg, Result.andThen, goInt, hn]
    ·simp at hk
   ·simp at hk
  ·simp at hk
def Zs (P : Program) : XRule P where
 fn ora k h avs op := match op, avs with
  | .makeMap _ none, [] => some (none, .mp k, [(k, .ob (.map #[] 0))])
  | _, _ => none
 fresh ora k h avs op c r ups he hf := by
  split at he
  ·simp only [oi0, pi0] at he
   obtain ⟨rfl, rfl, rfl⟩ := he
   intro j hj
   simp only [r6]
   rw [Heap.put_ne _ (by omega)]
   exact hf j (by omega)
  ·cases he
 ok ora k h avs op c r ups he hc hf := by
  intro F hF n w0 ρ w a o ho hr hbel hh K Q hK
  split at he
  ·rename_i T
   simp only [oi0, pi0] at he
   obtain ⟨rfl, rfl, rfl⟩ := he
   have hrun : (execOp a.eval o).run P w = .ok (.value (.map (some w.heap.size))) (w.alloc (.map #[] 0)) := by
    simp [execOp, ho, run_makeMap]
   refine qO hF (fun c hc' => by rw [ho] at hc'; cases hc') ?_
   rw [hrun]
   obtain ⟨f1, f2⟩ := hh.new (hf k (Nat.le_refl _)) (.map #[] 0) (.ob (.map #[] 0)) ⟨rfl, hh.size, (MapKept.heap_alloc w _).1⟩
   refine hK _ _ _ f2 ?_ (hbel.alloc hbel.size _) f1
   simp only [Rep]
   exact ⟨_, Names.new_eq _ _ _, rfl⟩
  ·cases he
def ZE (P : Program) : XRule P where
 fn ora k h avs op := match op, avs, ora.lp with
  | .mapUpdate T _ _ _, [.mp id, y, z], some pk => (match h.get id, y.val?, z.val?, pk.E.hp with
   | some (.ob o), some kv, some zv, [(_, .ob o')] => some (some (Z9 P T o kv zv o'), .tp [], [(id, .ob o')])
   | _, _, _, _ => none)
  | _, _, _ => none
 fresh ora k h avs op c r ups he hf := by
  split at he
  ·rename_i T mo ko zo id y z pk _
   split at he
   ·rename_i ob kv zv _ ob' hblk hkv hzv _
    simp only [oi0, pi0] at he
    obtain ⟨rfl, rfl, rfl⟩ := he
    intro j hj
    simp only [r6]
    have hne : j ≠ id := fun e => by
     subst e
     rw [hf j (by omega)] at hblk
     cases hblk
    rw [Heap.put_ne _ hne]
    exact hf j (by omega)
   ·cases he
  ·cases he
 ok ora k h avs op c r ups he hc hf := by
  intro F hF n w0 ρ w a o ho hr hbel hh K Q hK
  split at he
  ·rename_i T mo ko zo id y z pk _
   split at he
   ·rename_i ob kv zv _ ob' hblk hkv hzv _
    simp only [oi0, pi0] at he
    obtain ⟨rfl, rfl, rfl⟩ := he
    simp only [Option.getD_some] at hc
    simp only [Op.operands, List.map_cons, List.map_nil, Reps, Rep] at hr
    obtain ⟨u, r1, e1, ⟨v, hv, rfl⟩, y', r2, rfl, hy, z', r3, rfl, hz, rfl⟩ := hr
    simp at e1
    have e2 := hy.of_val hkv
    have e3 := hz.of_val hzv
    subst e2 e3
    obtain ⟨v', g1, g2⟩ := hh.at_ id _ hblk
    rw [hv] at g1; simp only [oi0] at g1; subst g1
    obtain ⟨j1, j2, j3⟩ := g2
    have hrun : (execOp a.eval o).run P w = .ok .skip { w with heap := w.heap.setIfInBounds v.1 ob' } := by
     simp [execOp, ho, e1.1, e1.2.1, e1.2.2, hc w v.1 j3]
    refine qO hF (fun c hc' => by rw [ho] at hc'; cases hc') ?_
    rw [hrun]
    obtain ⟨s1, s2⟩ := MapKept.heap_set (o' := ob') j3
    refine hK ρ undef _ ρ.le_refl (tt.2 rfl) ⟨hbel.os, hbel.tape, hbel.output, by simpa using hbel.size, fun q hq => by rw [s2 q (by omega)]; exact hbel.block q hq⟩ ?_
    exact hh.turn hv j2 hblk rfl _ (by simp) (fun q hq => s2 q hq) ⟨j1, j2, s1⟩
   ·cases he
  ·cases he
def EA (ρ : Names) : List (Nat × Blk) -> List NM -> Prop
 | [], [] => True
 | (i, _) :: l, u :: us => ρ i = some u /\ EA ρ l us
 | _, _ => False
def Ez (B : Nat) (w : World) : List (Nat × Blk) -> List NM -> Prop
 | [], [] => True
 | (_, b) :: l, u :: us => b.pureB = true /\ u.1 < w.heap.size /\ BAt B rM w u b /\ (∀ u' ∈ us, u'.1 ≠ u.1) /\ Ez B w l us
 | _, _ => False
def Tq (P : Program) (f : FuncId) (args : List XV) (r : AV) (bl : List (Nat × Blk)) : Prop :=
 (∀ vs w, (callFunc f vs).run P w = .ok (.enter f vs) w) /\
 ∀ w vs, XReps w args vs -> Calls P f vs.toArray w (fun en w' => ∃ v us, en = .returned v /\ (∀ ρ : Names, EA ρ bl us -> Rep ρ r v) /\ Ez w.heap.size w' bl us /\ Below w.heap.size w w')
def uC (h : Heap) (k : Nat) : List (Nat × Blk) -> Bool
 | [] => true
 | (i, _) :: l => (match h.get i with | none => true | some _ => false) && Nat.ble i k && l.all (fun q => !(Nat.beq q.1 i)) && uC h k l
theorem DW {B : Nat} {w w' : World} : ∀ (bl : List (Nat × Blk)) (us : List NM) {ρ : Names} {h : Heap} {k : Nat}, HRel B ρ h w' -> uC h k bl = true -> Ez w.heap.size w' bl us -> B <= w.heap.size →
  (∀ u' ∈ us, ∀ i v, ρ i = some v -> v.1 ≠ u'.1) -> ∃ ρ', ρ.le ρ' /\ EA ρ' bl us /\ HRel B ρ' (r6 h bl) w' /\ ∀ i, (∀ q ∈ bl, q.1 ≠ i) -> ρ' i = ρ i
 | [], [], ρ, h, k, hh, _, _, _, _ => ⟨ρ, ρ.le_refl, tt0, hh, fun _ _ => rfl⟩
 | [], _ :: _, _, _, _, _, _, hb, _, _ => hb.elim
 | _ :: _, [], _, _, _, _, _, hb, _, _ => hb.elim
 | (i, b) :: l, u :: us, ρ, h, k, hh, hf, hb, hB, hx => by
  obtain ⟨hp, hlt, hat, hne, hrest⟩ := hb
  simp only [uC, Bool.and_eq_true] at hf
  obtain ⟨⟨⟨hi, hik⟩, hd⟩, hf'⟩ := hf
  have hi : h.get i = none := by
   cases e : h.get i with
   | none => rfl
   | some _ => rw [e] at hi; cases hi
  have hn := hh.none_ i hi
  have hle := Names.le_nm hn u
  have hown := hat.own_le hp
  have h1 : HRel B (ρ.nm i u) (h.put i b) w' := by
   refine ⟨⟨fun j c hj => ?_, fun j v hv => ?_, hh.size⟩, fun p q v v' bp bq gp gq lp lq hv hv' e hB' => ?_, fun j hj => ?_⟩
   ·by_cases e : j = i
    ·subst e
     rw [Heap.put_eq] at hj
     simp only [oi0] at hj; subst hj
     exact ⟨u, Names.nm_eq _ _ _, hat.moveB hp hB⟩
    ·rw [Heap.put_ne _ e] at hj
     obtain ⟨v, g1, g2⟩ := hh.at_ j c hj
     exact ⟨v, hle _ _ g1, g2.mono hle⟩
   ·by_cases e : j = i
    ·subst e; rw [Names.nm_eq] at hv; simp only [oi0] at hv; subst hv; exact hlt
    ·rw [Names.nm_ne _ _ e] at hv; exact hh.lt _ _ hv
   ·by_cases e1 : p = i
    ·by_cases e2 : q = i
     ·rw [e1, e2]
     ·subst e1
      rw [Names.nm_eq] at hv; simp only [oi0] at hv; subst hv
      rw [Names.nm_ne _ _ e2] at hv'
      exact absurd e.symm (hx u (by simp) q v' hv')
    ·by_cases e2 : q = i
     ·subst e2
      rw [Names.nm_eq] at hv'; simp only [oi0] at hv'; subst hv'
      rw [Names.nm_ne _ _ e1] at hv
      exact absurd e (hx u (by simp) p v hv)
     ·rw [Names.nm_ne _ _ e1] at hv
      rw [Names.nm_ne _ _ e2] at hv'
      rw [Heap.put_ne _ e1] at gp
      rw [Heap.put_ne _ e2] at gq
      exact hh.inj p q v v' bp bq gp gq lp lq hv hv' e hB'
   ·have e : j ≠ i := fun e => by subst e; rw [Heap.put_eq] at hj; cases hj
    rw [Heap.put_ne _ e] at hj
    rw [Names.nm_ne _ _ e]; exact hh.none_ j hj
  have hfree : uC (h.put i b) k l = true := by
   clear hrest hx h1
   induction l with
   | nil => rfl
   | cons q l ih =>
    simp only [uC, Bool.and_eq_true, List.all_cons] at hf' hd ⊢
    obtain ⟨⟨⟨f1, f2⟩, f3⟩, f4⟩ := hf'
    obtain ⟨d1, d2⟩ := hd
    have hq : q.1 ≠ i := fun e => by simp [e] at d1
    exact ⟨⟨⟨by rw [Heap.put_ne _ hq]; exact f1, f2⟩, f3⟩, ih f4 d2⟩
  have hx' : ∀ u' ∈ us, ∀ j v, ρ.nm i u j = some v -> v.1 ≠ u'.1 := fun u' hu' j v hv => by
   by_cases e : j = i
   ·subst e; rw [Names.nm_eq] at hv; simp only [oi0] at hv; subst hv; exact fun e => hne u' hu' e.symm
   ·rw [Names.nm_ne _ _ e] at hv; exact hx u' (by simp [hu']) j v hv
  obtain ⟨ρ', r1, r2, r3, r4⟩ := DW l us h1 hfree hrest hB hx'
  refine ⟨ρ', Names.le_trans hle r1, ⟨r1 _ _ (Names.nm_eq _ _ _), r2⟩, r3, fun j hj => ?_⟩
  rw [r4 j (fun q hq => hj q (by simp [hq])), Names.nm_ne _ _ (fun e => hj (i, b) (by simp) e.symm)]
def YU (P : Program) : XRule P where
 fn ora k h avs op := match op, avs, ora.lp with
  | .call { callee := .value _, args := _, argTypes := _ }, .clo g first cap :: rest, some pk => (match FF h (first ++ rest ++ cap), uC h k pk.E.hp with
   | some l, true => some (some (Tq P g l (ora.av 0) pk.E.hp), ora.av 0, pk.E.hp)
   | _, _ => none)
  | _, _, _ => none
 fresh ora k h avs op c r ups he hf := by
  split at he
  ·split at he
   ·rename_i pk _ _ _ hfree
    simp only [oi0, pi0] at he
    obtain ⟨rfl, rfl, rfl⟩ := he
    intro j hj
    have key : ∀ (l : List (Nat × Blk)) (h : Heap), h.get j = none -> uC h k l = true -> (r6 h l).get j = none := by
     intro l
     induction l with
     | nil => intro h e _; exact e
     | cons q l ih =>
      intro h e hq
      simp only [uC, Bool.and_eq_true] at hq
      obtain ⟨⟨⟨f1, f2⟩, f3⟩, f4⟩ := hq
      have hne : j ≠ q.1 := fun e => by have := Nat.le_of_ble_eq_true f2; omega
      simp only [r6]
      refine ih _ (by rw [Heap.put_ne _ hne]; exact e) ?_
      clear ih f1 f2
      induction l with
      | nil => rfl
      | cons q' l ih =>
       simp only [uC, Bool.and_eq_true, List.all_cons] at f3 f4 ⊢
       obtain ⟨⟨⟨a1, a2⟩, a3⟩, a4⟩ := f4
       obtain ⟨d1, d2⟩ := f3
       have hq' : q'.1 ≠ q.1 := fun e => by simp [e] at d1
       exact ⟨⟨⟨by rw [Heap.put_ne _ hq']; exact a1, a2⟩, a3⟩, ih a4 d2⟩
    exact key _ _ (hf j (by omega)) hfree
   ·cases he
  ·cases he
 ok ora k h avs op c r ups he hc hf := by
  intro F hF n w0 ρ w a o ho hr hbel hh K Q hK
  split at he
  ·rename_i f args at' g first cap rest pk _
   split at he
   ·rename_i l hl hfree
    simp only [oi0, pi0] at he
    obtain ⟨rfl, rfl, rfl⟩ := he
    simp only [Option.getD_some] at hc
    obtain ⟨g4, g5⟩ := hc
    simp only [Op.operands, Call.operands, Reps] at hr
    obtain ⟨fv, vs, e0, hfe, hrest⟩ := hr
    have e0' : a.eval f = fv /\ args.toList.map a.eval = vs := by simpa using e0
    obtain ⟨rfl, rfl⟩ := e0'
    simp only [Rep] at hfe
    obtain ⟨xs, ys, e1, e2, e3⟩ := hfe
    have hrun : (execOp a.eval o).run P w = .ok (.enter g (xs ++ args.toList.map a.eval ++ ys).toArray) w := by
     simp only [execOp, ho, Sem.run_bind, resolve, e3, Deferred.ofValue, Sem.run_pure, Result.andThen_ok, invoke]
     rw [← g4]
     congr 2
     apply Array.toList_inj.1
     simp
    refine qO hF (fun c hc' => by rw [ho] at hc'; cases hc') ?_
    rw [hrun]
    simp only [Oper.uponIn]
    have hx := we hh.toHAt _ _ _ (rZ (rZ e1 hrest) e2) hl
    refine ⟨hF.depth, (hF.calls (g5 w _ hx)).mono fun en w' hen => ?_⟩
    obtain ⟨v, us, i1, i2, i3, i5⟩ := hen
    subst i1
    have hge : ∀ (bl : List (Nat × Blk)) (us : List NM), Ez w.heap.size w' bl us -> ∀ u' ∈ us, w.heap.size <= u'.1 := by
     intro bl
     induction bl with
     | nil => intro us hb u' hu'; cases us with | nil => cases hu' | cons => exact hb.elim
     | cons q bl ih =>
      intro us hb u' hu'
      cases us with
      | nil => cases hu'
      | cons u us =>
       obtain ⟨hp, _, hat, _, hrest⟩ := hb
       rcases List.mem_cons.1 hu' with rfl | hu'
       ·exact hat.own_le hp
       ·exact ih us hrest u' hu'
    obtain ⟨ρ', r1, r2, r3, _⟩ := DW _ us (hh.below i5) hfree i3 hh.size (fun u' hu' i v hv => by
     have := hge _ us i3 u' hu'
     have := hh.lt _ _ hv
     omega)
    exact hK ρ' v w' r1 (i2 ρ' r2) (zh hbel i5) r3
   ·cases he
  ·cases he
def ZK (P : Program) : QRule P where
 fn ora h avs op := match op, avs with
  | .binOp .shl T _ _ _, [.v (.int k c), .v (.int k2 z)] => [(some (z = ((ora.hi 0 : Nat) : Int) /\ k.wrap (c * 2 ^ min (ora.hi 0) k.bits) = ((ora.hi 1 : Nat) : Int)), .v (.int k ((ora.hi 1 : Nat) : Int)))]
  | _, _ => []
 nd ora h avs op k p hk c e := by subst e; simp at hk
 ok ora h avs op k c r hk hc := by
  intro B ρ w a o ho hr hh
  split at hk
  ·rename_i T x y yt kd cc k2 z
   have e := sf hk
   simp only [pi0] at e
   obtain ⟨rfl, rfl⟩ := e
   simp only [Option.getD_some] at hc
   obtain ⟨rfl, h1⟩ := hc
   simp only [Op.operands, List.map_cons, List.map_nil, Reps, Rep] at hr
   obtain ⟨u, r1, e1, rfl, v, r2, rfl, rfl, rfl⟩ := hr
   simp only [List.cons.injEq, and_true] at e1
   have e1 : a.eval x = .int kd cc /\ a.eval y = .int k2 ((ora.hi 0 : Nat) : Int) := by simpa using e1
   have hb : ¬ ((ora.hi 0 : Nat) : Int) < 0 := by omega
   refine ⟨.int kd ((ora.hi 1 : Nat) : Int), ?_, rfl⟩
   simp only [execOp, ho, e1.1, e1.2, eqGuard_at_int, binOp, Op.shift, hb, if_false, Int.toNat_natCast, h1]
   rfl
  ·simp at hk
theorem KK {P : Program} {T : TypeId} {ks : List K} (h : KL P T = some ks) {l m : List Value} (f1 : Fit l ks) (f2 : Fit m ks) (w : World) (X Y : Operand) (neg r : Bool) (hr : (r = true) ↔ l = m) :
  (do eqGuard (if neg then .neq else .eql) T X Y (.agg l.toArray) (.agg m.toArray); binOp (if neg then .neq else .eql) T (.agg l.toArray) (.agg m.toArray)).run P w = .ok (.bool (if neg then !r else r)) w := by
 unfold KL at h
 split at h
 ·rename_i ks' hk
  split at h
  ·rename_i hb
   simp only [oi0] at h
   subst h
   simp only [Bool.and_eq_true, decide_eq_true_eq, Bool.not_eq_true'] at hb
   obtain ⟨⟨⟨h0, h3⟩, h4⟩, h5⟩ := hb
   have formed : ∀ l : List Value, Fit l ks' -> Value.formed P T (.agg l.toArray) = true := by
    intro l hl
    have hc : l.length = P.cellsOf T := by rw [hl.length, h0]
    split at h5
    ·rename_i hu; simp [Value.formed, hu, hc]
    ·rename_i hu; simp [Value.formed, hu, hc]
    ·cases h5
   obtain ⟨r', e1, e2⟩ := run_equalIn_deep (P := P) 9984 16 T h3 w 16 16 (.agg l.toArray) (.agg m.toArray) (l.map litV) (m.map litV) (formed _ f1) (formed _ f2)
    (by simpa [Value.cells] using sO 16 T ks' hk _ f1) (by simpa [Value.cells] using sO 16 T ks' hk _ f2)
   have hrr : r' = r := by
    rw [Bool.eq_iff_iff, e2, hr]
    exact ⟨fun e => zI f1 f2 e, fun e => by rw [e]⟩
   subst hrr
   have e1' : (Op.equal T (.agg l.toArray) (.agg m.toArray)).run P w = .ok r' w := e1
   have g : ∀ op, (eqGuard op T X Y (.agg l.toArray) (.agg m.toArray)).run P w = .ok () w := by
    intro op
    cases op <;> first | rfl | simp [eqGuard, h4]
   simp only [Sem.run_bind, g, Result.andThen_ok]
   cases neg <;> simp [binOp, e1']
  ·cases h
 ·cases h
def negOf : BinOp -> Option Bool
 | .eql => some false
 | .neq => some true
 | _ => none
def aaq (P : Program) : QRule P where
 fn ora h avs op := match op, avs with
  | .binOp bo T _ _ _, [.ag a, .ag b] => (match negOf bo, KL P T, pureC a, pureC b with
   | some neg, some ks, true, true => [(some (Fit (flat a) ks /\ Fit (flat b) ks /\ flat a = flat b), .v (.bool (!neg))), (some (Fit (flat a) ks /\ Fit (flat b) ks /\ flat a ≠ flat b), .v (.bool neg))]
   | _, _, _, _ => [])
  | _, _ => []
 nd ora h avs op k p hk c e := by subst e; simp at hk
 ok ora h avs op k c r hk hc := by
  intro B ρ w a o ho hr hh
  split at hk
  ·rename_i bo T x y yt cs ds
   split at hk
   ·rename_i neg ks hn hT hp hp'
    simp only [Op.operands, List.map_cons, List.map_nil, Reps, Rep] at hr
    obtain ⟨u, r1, e1, ⟨hd, rfl⟩, v, r2, e2, ⟨hd', rfl⟩, e3⟩ := hr
    subst e2
    subst e3
    have e1 : a.eval x = .agg (flatR ρ cs).toArray /\ a.eval y = .agg (flatR ρ ds).toArray := by simpa using e1
    have hbo : bo = if neg then .neq else .eql := by
     cases bo <;> simp [negOf] at hn <;> subst hn <;> rfl
    have key : ∀ r : Bool, Fit (flat cs) ks -> Fit (flat ds) ks -> ((r = true) ↔ flat cs = flat ds) -> (execOp a.eval o).run P w = .ok (.value (.bool (if neg then !r else r))) w := by
     intro r f1 f2 hr
     have hrun := KK (P := P) hT f1 f2 w x y neg r hr
     rw [← hbo] at hrun
     simp only [execOp, ho, e1.1, e1.2, (qg ρ hp).1, (qg ρ hp').1]
     rw [Sem.run_bind, hrun]
     rfl
    match k, hk with
    | 0, hk =>
     simp only [List.getElem?_cons_zero, oi0, pi0] at hk
     obtain ⟨rfl, rfl⟩ := hk
     simp only [Option.getD_some] at hc
     obtain ⟨f1, f2, e⟩ := hc
     refine ⟨.bool (!neg), ?_, rfl⟩
     rw [key true f1 f2 ⟨fun _ => e, fun _ => rfl⟩]
     cases neg <;> rfl
    | 1, hk =>
     simp only [List.getElem?_cons_succ, List.getElem?_cons_zero, oi0, pi0] at hk
     obtain ⟨rfl, rfl⟩ := hk
     simp only [Option.getD_some] at hc
     obtain ⟨f1, f2, e⟩ := hc
     refine ⟨.bool neg, ?_, rfl⟩
     rw [key false f1 f2 ⟨fun h => (by cases h), fun h => absurd h e⟩]
     cases neg <;> rfl
    | k + 2, hk => simp at hk
   ·simp at hk
  ·simp at hk
def tk (P : Program) : Rules P := { q := (HB P).q ++ [Zv P, YM P, WW P, ZS P, ZK P, aaq P], x := (HB P).x ++ [Zs P, ZE P, YU P], d := (HB P).d }
end Go.Ev
set_option linter.unusedSimpArgs false
set_option linter.unusedVariables false
set_option linter.unusedSectionVars false
namespace Go.Ev
open Go.RowKit
variable {P : Program}
def aar (P : Program) : QRule P where
 fn ora h avs op := match op, avs with
  | .binOp .rem T _ _ _, [.v (.int k a), .v (.int k2 b)] => [(some (k = k2 /\ b ≠ 0 /\ a.tmod b = ((ora.hi 0 : Nat) : Int)), .v (.int k ((ora.hi 0 : Nat) : Int)))]
  | _, _ => []
 nd ora h avs op k p hk c e := by subst e; simp at hk
 ok ora h avs op k c r hk hc := by
  intro B ρ w a o ho hr hh
  split at hk
  ·rename_i T x y yt kd aa k2 bb
   have e := sf hk
   simp only [pi0] at e
   obtain ⟨rfl, rfl⟩ := e
   simp only [Option.getD_some] at hc
   obtain ⟨rfl, h0, h1⟩ := hc
   simp only [Op.operands, List.map_cons, List.map_nil, Reps, Rep] at hr
   obtain ⟨u, r1, e1, rfl, v, r2, rfl, rfl, rfl⟩ := hr
   have e1 : a.eval x = .int kd aa /\ a.eval y = .int kd bb := by simpa using e1
   refine ⟨.int kd ((ora.hi 0 : Nat) : Int), ?_, rfl⟩
   simp [execOp, ho, e1.1, e1.2, eqGuard_at_int, binOp, Op.intDiv, h0, h1]
  ·simp at hk
def HT (P : Program) : Rules P := { q := (tk P).q ++ [aar P], x := (tk P).x, d := (tk P).d }
end Go.Ev
set_option linter.unusedSimpArgs false
set_option linter.unusedVariables false
namespace Go.Ev
open Go.RowKit
variable {P : Program}
def Zo (P : Program) : XRule P where
 fn ora k h avs op := match op, avs with
  | .call { callee := .builtin .clear, args := args, argTypes := argTypes }, [.sl id off (len + 1) cap] => (match h.get id, argTypes.toList with
   | some (.own cs t), [T] => (match P.underlying T with
    | some (.slice e) => (match P.info? e with
     | some ie => (match ie.zero with
      | some (.int kk z) => (match Nat.beq off 0, Nat.beq (sizes cs) (len + 1) with
       | true, true => some (none, .tp [], [(id, .own (List.replicate (len + 1) (.c (.int kk z))) t)])
       | _, _ => none)
      | _ => none)
     | none => none)
    | _ => none)
   | _, _ => none)
  | _, _ => none
 fresh ora k h avs op c r ups he hf := by
  split at he
  ·rename_i args argTypes id off len cap
   split at he
   ·rename_i cs t T hblk hT
    split at he
    ·split at he
     ·split at he
      ·split at he
       ·simp only [oi0, pi0] at he
        obtain ⟨rfl, rfl, rfl⟩ := he
        intro j hj
        simp only [r6]
        have hne : j ≠ id := fun e => by
         subst e
         rw [hf j (by omega)] at hblk
         cases hblk
        rw [Heap.put_ne _ hne]
        exact hf j (by omega)
       ·cases he
      ·cases he
     ·cases he
    ·cases he
   ·cases he
  ·cases he
 ok ora k h avs op c r ups he hc hf := by
  intro F hF n w0 ρ w a o ho hr hbel hh K Q hK
  split at he
  ·rename_i args argTypes id off len cap
   split at he
   ·rename_i cs t T hblk hT
    split at he
    ·rename_i e hu
     split at he
     ·rename_i ie hie
      split at he
      ·rename_i kk z hz
       split at he
       ·rename_i h0 hsz
        have h0 := Nat.eq_of_beq_eq_true h0
        have hsz := Nat.eq_of_beq_eq_true hsz
        subst h0
        simp only [oi0, pi0] at he
        obtain ⟨rfl, rfl, rfl⟩ := he
        have ha : args.toList.map a.eval = (Op.operands (.call { callee := .builtin .clear, args := args, argTypes := argTypes })).toList.map a.eval := by simp [Op.operands, Call.operands]
        rw [← ha] at hr
        simp only [Reps, Rep] at hr
        obtain ⟨u, r1, e1, ⟨v, hv, rfl⟩, rfl⟩ := hr
        obtain ⟨v', g1, g2⟩ := hh.at_ id _ hblk
        rw [hv] at g1; simp only [oi0] at g1; subst g1
        obtain ⟨j1, j2, j3, j6⟩ := g2
        have e2 : args.map a.eval = #[.slice (some ⟨v.1, v.2 + 0, none⟩) (len + 1) cap] := by apply Array.toList_inj.1; simpa using e1
        have e3 : argTypes = #[T] := by apply Array.toList_inj.1; simpa using hT
        have hzero : (zeroValue e).run P w = .ok (.int kk z) w := by simp [zeroValue, typeInfo, hie, hz]
        have hzc : (Builtin.zeroCells (Value.int kk z).cells (len + 1)).toList = List.replicate (len + 1) (.int kk z) := by
         show (Builtin.zeroCells #[.int kk z] (len + 1)).toList = _
         simp [Builtin.zeroCells]
         apply List.ext_getElem
         ·simp
         ·intro i h1 h2
          simp [Nat.mod_one]
        have hlen : (flatR ρ cs).length = len + 1 := by rw [rn]; exact hsz
        have hst := rQ (P := P) v.1 0 t (0, 0) (List.replicate (len + 1) (.int kk z)) 0 (flatR ρ cs).toArray w j6 (by simp [hlen]) (.inl rfl) (fun x hx => by rw [List.eq_of_mem_replicate hx]; rfl)
        have e4 : (flatR ρ cs).toArray.toList.take (0 + 0) ++ List.replicate (len + 1) (Value.int kk z) ++ (flatR ρ cs).toArray.toList.drop (0 + 0 + (List.replicate (len + 1) (Value.int kk z)).length) = flatR ρ (List.replicate (len + 1) (.c (.int kk z))) := by
         have e5 : ∀ m, flatR ρ (List.replicate m (.c (.int kk z))) = List.replicate m (.int kk z) := fun m => by
          induction m with
          | zero => rfl
          | succ m ih => rw [List.replicate_succ, List.replicate_succ, ← ih]; rfl
         rw [e5]
         simp [hlen]
        rw [e4] at hst
        have hrun : (execOp a.eval o).run P w = .ok (.value (.tuple #[])) (w.setRow v.1 (flatR ρ (List.replicate (len + 1) (.c (.int kk z)))).toArray) := by
         simp [execOp, ho, resolve, invoke, builtin, e2, e3, Builtin.clear_, run_underlying hu, hzero, hzc, Result.andThen, j1]
         rw [hst]
        refine qO hF (fun c hc' => by rw [ho] at hc'; cases hc') ?_
        rw [hrun]
        have hp : pureC (List.replicate (len + 1) (Ch.c (.int kk z))) = true := by
         have : ∀ m, pureC (List.replicate m (Ch.c (.int kk z))) = true := fun m => by
          induction m with
          | zero => rfl
          | succ m ih => rw [List.replicate_succ]; simp only [pureC, Ch.pure]; exact ih
         exact this _
        refine hK ρ (.tuple #[]) _ ρ.le_refl ⟨[], (by simp only [Reps]), rfl⟩ (below_setRow hbel j2 _) ?_
        exact hh.turn hv j2 hblk rfl _ (by simp) (fun j hj => setRow_other w v.1 j _ hj) ⟨j1, j2, (qg ρ hp).2, setRow_heap w v.1 _ _ t _ j6⟩
       ·cases he
      ·cases he
     ·cases he
    ·cases he
   ·cases he
  ·cases he
def V0 (P : Program) : QRule P where
 fn ora h avs op := match op, avs with
  | .call { callee := .builtin .min, args := args, argTypes := argTypes }, [.v (.int k a), .v (.int k2 b), .v (.int k3 c)] => [(some ((if c < (if b < a then b else a) then c else (if b < a then b else a)) = ((ora.hi 0 : Nat) : Int)), .v (.int k ((ora.hi 0 : Nat) : Int)))]
  | _, _ => []
 nd ora h avs op k p hk c e := by subst e; simp at hk
 ok ora h avs op k c r hk hc := by
  intro B ρ w a o ho hr hh
  split at hk
  ·rename_i args argTypes kd aa k2 bb k3 cc
   have e := sf hk
   simp only [pi0] at e
   obtain ⟨rfl, rfl⟩ := e
   simp only [Option.getD_some] at hc
   have ha : args.toList.map a.eval = (Op.operands (.call { callee := .builtin .min, args := args, argTypes := argTypes })).toList.map a.eval := by simp [Op.operands, Call.operands]
   rw [← ha] at hr
   simp only [Reps, Rep] at hr
   obtain ⟨u, r1, e1, rfl, v, r2, rfl, rfl, x, r3, rfl, rfl, rfl⟩ := hr
   have e2 : args.map a.eval = #[.int kd aa, .int k2 bb, .int k3 cc] := by apply Array.toList_inj.1; simpa using e1
   refine ⟨.int kd ((ora.hi 0 : Nat) : Int), ?_, rfl⟩
   rw [← hc]
   simp [execOp, ho, resolve, invoke, builtin, e2, Builtin.min_, Builtin.min2]
  ·simp at hk
def qK (P : Program) : Rules P := { q := (HT P).q ++ [V0 P], x := (HT P).x ++ [Zo P], d := (HT P).d }
end Go.Ev
