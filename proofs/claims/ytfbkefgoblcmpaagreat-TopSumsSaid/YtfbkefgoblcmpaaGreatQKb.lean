/- Pruned: Kb. -/
import Derived.Test.YtfbkefgoblcmpaaGreatQGb
import Derived.Test.YtfbkefgoblcmpaaGreatQHa
import Derived.Test.YtfbkefgoblcmpaaGreatQHf
import Derived.Test.YtfbkefgoblcmpaaGreatQKa
set_option linter.unusedVariables false
set_option linter.unusedSimpArgs false
namespace Go.Ev
def scl2 (a : F2) (n : Fin Pp) : F2 := (a.1 * n, a.2 * n)
def lin12 (a b c : F2) : F12 := ((a, b, (0, 0)), ((0, 0), c, (0, 0)))
def tchL (t : Pt2) (x y : Fin Pp) : F12 :=
 let xx := mul2 t.1 t.1
 let zz := mul2 t.2.2 t.2.2
 let three := qR (qR xx xx) xx
 let yy := mul2 t.2.1 t.2.1
 let c := mul2 (mul2 t.2.1 zz) t.2.2
 lin12 (sI (sI (mul2 three t.1) yy) yy) (uq (scl2 (mul2 three zz) x)) (scl2 (qR c c) y)
def Ii (t q : Pt2) (x y : Fin Pp) : F12 :=
 let zz := mul2 t.2.2 t.2.2
 let h := mul2 (sI (mul2 q.1 zz) t.1) t.2.2
 let r := sI (mul2 (mul2 q.2.1 zz) t.2.2) t.2.1
 lin12 (sI (mul2 r q.1) (mul2 q.2.1 h)) (uq (scl2 r x)) (scl2 h y)
def Kg (q : Pt2) (x y : Fin Pp) (s : Pt2 × F12) (b : Bool) : Pt2 × F12 :=
 match b with
 | false => (rq s.1, mul12 (mul12 s.2 s.2) (tchL s.1 x y))
 | true => (vr (rq s.1) q, mul12 (mul12 (mul12 s.2 s.2) (tchL s.1 x y)) (Ii (rq s.1) q x y))
def milN (e : Nat) (q : Pt2) (x y : Fin Pp) : Nat -> Pt2 × F12
 | 0 => (q, one12)
 | n + 1 => Kg q x y (milN e q x y n) (Nat.testBit e (62 - n))
end Go.Ev
set_option linter.unusedSimpArgs false
set_option linter.unusedVariables false
namespace Go.Ev
def chs : Nat -> Nat -> Nat
 | _, 0 => 1
 | 0, _ + 1 => 0
 | n + 1, k + 1 => chs n k + chs n (k + 1)
theorem x7 (n : Nat) : chs n 0 = 1 := by cases n <;> rfl
theorem Be : ∀ (n k : Nat), n < k -> chs n k = 0
 | _, 0, h => by omega
 | 0, k + 1, _ => rfl
 | n + 1, k + 1, h => by
  show chs n k + chs n (k + 1) = 0
  rw [Be n k (by omega), Be n (k + 1) (by omega)]
theorem F9 : ∀ n, chs n n = 1
 | 0 => rfl
 | n + 1 => by
  show chs n n + chs n (n + 1) = 1
  rw [F9 n, Be n (n + 1) (by omega)]
theorem Bo : ∀ (n k : Nat), (k + 1) * chs (n + 1) (k + 1) = (n + 1) * chs n k
 | 0, 0 => rfl
 | 0, k + 1 => by
  show (k + 2) * (chs 0 (k + 1) + chs 0 (k + 2)) = 1 * chs 0 (k + 1)
  rw [show chs 0 (k + 1) = 0 from rfl, show chs 0 (k + 2) = 0 from rfl]
  omega
 | n + 1, 0 => by
  have h : 1 * chs (n + 1) 1 = (n + 1) * chs n 0 := Bo n 0
  show 1 * (chs (n + 1) 0 + chs (n + 1) 1) = (n + 1 + 1) * chs (n + 1) 0
  rw [x7 n] at h
  rw [x7 (n + 1)]
  omega
 | n + 1, k + 1 => by
  have h1 := Bo n k
  have h2 := Bo n (k + 1)
  have e1 : chs (n + 2) (k + 2) = chs (n + 1) (k + 1) + chs (n + 1) (k + 2) := rfl
  have e2 : chs (n + 1) (k + 1) = chs n k + chs n (k + 1) := rfl
  show (k + 2) * chs (n + 2) (k + 2) = (n + 2) * chs (n + 1) (k + 1)
  rw [e1, Nat.mul_add, h2]
  have e3 : (k + 2) * chs (n + 1) (k + 1) = (n + 1) * chs n k + chs (n + 1) (k + 1) := by rw [← h1, Nat.succ_mul]
  rw [e3]
  have e4 : (n + 2) * chs (n + 1) (k + 1) = (n + 1) * chs (n + 1) (k + 1) + chs (n + 1) (k + 1) := Nat.succ_mul _ _
  rw [e4]
  have e5 : (n + 1) * chs (n + 1) (k + 1) = (n + 1) * chs n k + (n + 1) * chs n (k + 1) := by rw [e2, Nat.mul_add]
  omega
theorem PJ {p : Nat} (hp : Pr p) {k : Nat} (h1 : 0 < k) (h2 : k < p) : p ∣ chs p k := by
 obtain ⟨k, rfl⟩ : ∃ j, k = j + 1 := ⟨k - 1, by omega⟩
 obtain ⟨n, rfl⟩ : ∃ j, p = j + 1 := ⟨p - 1, by omega⟩
 have h := Bo n k
 have hd : n + 1 ∣ (k + 1) * chs (n + 1) (k + 1) := ⟨chs n k, h⟩
 rcases hp.euclid hd with h3 | h3
 ·exact absurd (Nat.le_of_dvd (by omega) h3) (by omega)
 ·exact h3
def sm_ {α : Type} [Lean.Grind.CommRing α] (f : Nat -> α) : Nat -> α
 | 0 => 0
 | n + 1 => sm_ f n + f n
section
variable {α : Type} [Lean.Grind.CommRing α]
theorem CK {f g : Nat -> α} : ∀ n, (∀ k, k < n -> f k = g k) -> sm_ f n = sm_ g n
 | 0, _ => rfl
 | n + 1, h => by
  show sm_ f n + f n = sm_ g n + g n
  rw [CK n (fun k hk => h k (by omega)), h n (by omega)]
theorem Om (f g : Nat -> α) : ∀ n, sm_ (fun k => f k + g k) n = sm_ f n + sm_ g n
 | 0 => by show (0 : α) = 0 + 0; grind
 | n + 1 => by
  show sm_ (fun k => f k + g k) n + (f n + g n) = sm_ f n + f n + (sm_ g n + g n)
  rw [Om f g n]; grind
theorem Ib (f : Nat -> α) (c : α) : ∀ n, sm_ (fun k => f k * c) n = sm_ f n * c
 | 0 => by show (0 : α) = 0 * c; grind
 | n + 1 => by
  show sm_ (fun k => f k * c) n + f n * c = (sm_ f n + f n) * c
  rw [Ib f c n]; grind
theorem zF (f : Nat -> α) : ∀ n, sm_ f (n + 1) = f 0 + sm_ (fun k => f (k + 1)) n
 | 0 => by show (0 : α) + f 0 = f 0 + 0; grind
 | n + 1 => by
  show sm_ f (n + 1) + f (n + 1) = f 0 + (sm_ (fun k => f (k + 1)) n + f (n + 1))
  rw [zF f n]; grind
theorem I9 {f : Nat -> α} : ∀ n, (∀ k, k < n -> f k = 0) -> sm_ f n = 0
 | 0, _ => rfl
 | n + 1, h => by
  show sm_ f n + f n = 0
  rw [I9 n (fun k hk => h k (by omega)), h n (by omega)]; grind
def pwr (x : α) : Nat -> α
 | 0 => 1
 | n + 1 => pwr x n * x
def nc : Nat -> α
 | 0 => 0
 | n + 1 => nc n + 1
theorem Hv (m : Nat) : ∀ n, (nc (m + n) : α) = nc m + nc n
 | 0 => by show (nc m : α) = nc m + 0; grind
 | n + 1 => by
  show (nc (m + n) + 1 : α) = nc m + (nc n + 1)
  rw [Hv m n]; grind
theorem N3 (m : Nat) : ∀ n, (nc (m * n) : α) = nc m * nc n
 | 0 => by show (0 : α) = nc m * 0; grind
 | n + 1 => by
  rw [Nat.mul_succ, Hv, N3 m n]
  show (nc m * nc n + nc m : α) = nc m * (nc n + 1)
  grind
def vb (x y : α) (n k : Nat) : α := nc (chs n k) * pwr x k * pwr y (n - k)
theorem No (x y : α) : ∀ n, pwr (x + y) n = sm_ (vb x y n) (n + 1)
 | 0 => by
  show (1 : α) = 0 + (0 + 1) * 1 * 1
  grind
 | n + 1 => by
  show pwr (x + y) n * (x + y) = _
  rw [No x y n, zF (vb x y (n + 1)) (n + 1)]
  have e1 : sm_ (fun k => vb x y (n + 1) (k + 1)) (n + 1) = sm_ (fun k => vb x y n k * x + nc (chs n (k + 1)) * pwr x (k + 1) * pwr y (n - k)) (n + 1) := CK _ (fun k hk => by
   unfold vb
   rw [show chs (n + 1) (k + 1) = chs n k + chs n (k + 1) from rfl, Hv, show n + 1 - (k + 1) = n - k by omega]
   show (nc (chs n k) + nc (chs n (k + 1))) * (pwr x k * x) * pwr y (n - k) = nc (chs n k) * pwr x k * pwr y (n - k) * x + nc (chs n (k + 1)) * (pwr x k * x) * pwr y (n - k)
   grind)
  rw [e1, Om, Ib]
  have e2 : sm_ (vb x y n) (n + 1) * y = vb x y (n + 1) 0 + sm_ (fun k => nc (chs n (k + 1)) * pwr x (k + 1) * pwr y (n - k)) (n + 1) := by
   rw [← Ib, zF]
   have e3 : sm_ (fun k => nc (chs n (k + 1)) * pwr x (k + 1) * pwr y (n - k)) (n + 1) = sm_ (fun k => vb x y n (k + 1) * y) n := by
    show sm_ (fun k => nc (chs n (k + 1)) * pwr x (k + 1) * pwr y (n - k)) n + nc (chs n (n + 1)) * pwr x (n + 1) * pwr y (n - n) = _
    rw [Be n (n + 1) (by omega), CK n (g := fun k => vb x y n (k + 1) * y) (fun k hk => by
     unfold vb
     show nc (chs n (k + 1)) * pwr x (k + 1) * pwr y (n - k) = nc (chs n (k + 1)) * pwr x (k + 1) * pwr y (n - (k + 1)) * y
     rw [show n - k = (n - (k + 1)) + 1 by omega]
     show nc (chs n (k + 1)) * pwr x (k + 1) * (pwr y (n - (k + 1)) * y) = _
     grind)]
    show _ + 0 * pwr x (n + 1) * pwr y (n - n) = _
    grind
   rw [e3]
   have e4 : vb x y n 0 * y = vb x y (n + 1) 0 := by
    unfold vb
    rw [x7, x7]
    show nc 1 * 1 * pwr y n * y = nc 1 * 1 * (pwr y n * y)
    grind
   rw [e4]
  have e5 : sm_ (vb x y n) (n + 1) * (x + y) = sm_ (vb x y n) (n + 1) * x + sm_ (vb x y n) (n + 1) * y := by grind
  rw [e5, e2]; grind
theorem dream {p : Nat} (hp : Pr p) (h0 : (nc p : α) = 0) (x y : α) : pwr (x + y) p = pwr x p + pwr y p := by
 have h2 := hp.1
 obtain ⟨n, rfl⟩ : ∃ j, p = j + 1 := ⟨p - 1, by omega⟩
 rw [No]
 show sm_ (vb x y (n + 1)) (n + 1) + vb x y (n + 1) (n + 1) = _
 rw [zF, I9 n (fun k hk => by
  obtain ⟨d, hd⟩ := PJ hp (k := k + 1) (by omega) (by omega)
  unfold vb
  rw [hd, N3, h0]; grind)]
 have e1 : vb x y (n + 1) 0 = pwr y (n + 1) := by
  unfold vb
  rw [x7]
  show (0 + 1) * 1 * pwr y (n + 1) = _
  grind
 have e2 : vb x y (n + 1) (n + 1) = pwr x (n + 1) := by
  unfold vb
  rw [F9, Nat.sub_self]
  show (0 + 1) * pwr x (n + 1) * 1 = _
  grind
 rw [e1, e2]; grind
end
end Go.Ev
set_option linter.unusedSimpArgs false
set_option linter.unusedVariables false
namespace Go.Ev
theorem Lm (a : F12) : q8 (tW a.1, tW a.2) a = tv := ext12 (CI _) (CI _)
theorem BD (a : F12) : mul12 a tv = tv := by
 refine ext12 ?_ ?_
 ·rw [tK]; show ((a.1 : G6) * (0 : G6) + (a.2 : G6) * (0 : G6) * vG : G6) = 0; grind
 ·rw [tC]; show ((a.1 : G6) * (0 : G6) + (a.2 : G6) * (0 : G6) : G6) = 0; grind
def A5 (a : F12) : F12 := (tW a.1, tW a.2)
def ZR (a b : F12) : F12 := q8 a (A5 b)
theorem OD (a : F12) : A5 (A5 a) = a := ext12 (zk _) (zk _)
theorem KM : A5 tv = tv := ext12 yJ yJ
theorem N0 (a b : F12) : mul12 (A5 a) b = A5 (mul12 a b) := by
 have e1 : ∀ z : F12, ((A5 z).1 : G6) = -(z.1 : G6) := fun _ => rfl
 have e2 : ∀ z : F12, ((A5 z).2 : G6) = -(z.2 : G6) := fun _ => rfl
 refine ext12 ?_ ?_
 ·rw [e1, tK, tK, e1, e2]; grind
 ·rw [e2, tC, tC, e1, e2]; grind
abbrev K12 := F12
def A0 : Nat -> K12
 | 0 => tv
 | n + 1 => q8 (A0 n) one12
def KI : Int -> K12
 | .ofNat n => A0 n
 | .negSucc n => A5 (A0 (n + 1))
def XW (n : Nat) (a : K12) : K12 := mul12 (A0 n) a
def U0 (n : Int) (a : K12) : K12 := mul12 (KI n) a
def YI (a : K12) : Nat -> K12
 | 0 => one12
 | n + 1 => mul12 (YI a n) a
theorem Gt : ∀ i : Int, KI (-i) = A5 (KI i)
 | .ofNat 0 => KM.symm
 | .ofNat (n + 1) => rfl
 | .negSucc n => (OD _).symm
theorem tB : A0 1 = one12 := by
 show q8 tv one12 = one12
 rw [CR, CW]
instance : Lean.Grind.CommRing K12 where
 add a b := q8 a b
 mul a b := mul12 a b
 natCast := ⟨A0⟩
 ofNat n := ⟨A0 n⟩
 nsmul := ⟨XW⟩
 npow := ⟨YI⟩
 neg a := A5 a
 sub a b := ZR a b
 intCast := ⟨KI⟩
 zsmul := ⟨U0⟩
 add_zero := CW
 add_comm := CR
 add_assoc := F8
 mul_assoc := qJ
 mul_one := fun a => by show mul12 a (A0 1) = a; rw [tB]; exact tZ a
 one_mul := fun a => by show mul12 (A0 1) a = a; rw [tB, r9]; exact tZ a
 left_distrib := Dh
 right_distrib := fun a b c => by show mul12 (q8 a b) c = q8 (mul12 a c) (mul12 b c); rw [r9, Dh, r9 c a, r9 c b]
 zero_mul := fun a => by show mul12 tv a = tv; rw [r9]; exact BD a
 mul_zero := BD
 pow_zero := fun a => tB.symm
 pow_succ := fun _ _ => rfl
 ofNat_succ := fun n => by show q8 (A0 n) one12 = q8 (A0 n) (A0 1); rw [tB]
 ofNat_eq_natCast := fun _ => rfl
 nsmul_eq_natCast_mul := fun _ _ => rfl
 neg_add_cancel := Lm
 sub_eq_add_neg := fun a b => rfl
 neg_zsmul := fun i a => by show mul12 (KI (-i)) a = A5 (mul12 (KI i) a); rw [Gt, N0]
 zsmul_natCast_eq_nsmul := fun _ _ => rfl
 intCast_ofNat := fun _ => rfl
 intCast_neg := fun i => Gt i
 mul_comm := r9
def emb (x : Fin Pp) : F12 := (((x, 0), (0, 0), (0, 0)), zero6)
theorem LZ : ∀ n : Nat, (nc n : K12) = emb (ofP n)
 | 0 => by show tv = emb (ofP 0); decide
 | n + 1 => by
  have e : ofP (n + 1) = ofP n + 1 := Fin.ext (by
   rw [Fin.val_add]
   show (n + 1) % Pp = (n % Pp + 1 % Pp) % Pp
   rw [Nat.add_mod])
  have e1 : ((1 : K12) : F12) = one12 := tB
  show q8 (nc n) (1 : K12) = emb (ofP (n + 1))
  rw [LZ n, e1, e]
  generalize ofP n = x
  refine ext12 (vv (sJ rfl ?_) (sJ ?_ ?_) (sJ ?_ ?_)) (wb _)
  all_goals (show (0 : Fin Pp) + 0 = 0; decide)
theorem aaz : (nc Pp : K12) = 0 := by
 rw [LZ, show ofP Pp = 0 by decide]
 show emb 0 = tv
 decide
theorem Dw : ((1 : K12) : F12) = one12 := tB
theorem EG (a : F12) : ∀ n, (pwr (a : K12) n : F12) = pw mul12 one12 a n
 | 0 => Dw
 | n + 1 => by
  show mul12 (pwr (a : K12) n) a = mul12 (pw mul12 one12 a n) a
  rw [EG a n]
theorem QG (x y : F12) : pw mul12 one12 (q8 x y) Pp = q8 (pw mul12 one12 x Pp) (pw mul12 one12 y Pp) := by
 have h := dream (α := K12) ES aaz x y
 have e1 := EG (q8 x y) Pp
 have e2 := EG x Pp
 have e3 := EG y Pp
 rw [← e1, ← e2, ← e3]
 exact h
def MK : Mon F12 := { mul := mul12, one := one12, assoc := qJ, one_mul := fun a => by rw [r9, tZ], mul_one := tZ }
theorem FP (x y : F12) : ∀ n, pw mul12 one12 (mul12 x y) n = mul12 (pw mul12 one12 x n) (pw mul12 one12 y n)
 | 0 => (tZ one12).symm
 | n + 1 => by
  have e : ∀ p q r s : F12, mul12 (mul12 p q) (mul12 r s) = mul12 (mul12 p r) (mul12 q s) := fun p q r s => by
   rw [qJ, ← qJ q r s, r9 q r, qJ r q s, ← qJ]
  show mul12 (pw mul12 one12 (mul12 x y) n) (mul12 x y) = mul12 (mul12 (pw mul12 one12 x n) x) (mul12 (pw mul12 one12 y n) y)
  rw [FP x y n, e]
end Go.Ev
set_option linter.unusedSimpArgs false
set_option linter.unusedVariables false
namespace Go.Ev
def M2K : Mon F2 := { mul := mul2, one := one2, assoc := sd, one_mul := fun a => by rw [rB, s7], mul_one := s7 }
def pw2 (a : F2) (n : Nat) : F2 := pw mul2 one2 a n
theorem IY (x y : F2) : ∀ n, pw2 (mul2 x y) n = mul2 (pw2 x n) (pw2 y n)
 | 0 => (s7 one2).symm
 | n + 1 => by
  have e : ∀ p q r s : F2, mul2 (mul2 p q) (mul2 r s) = mul2 (mul2 p r) (mul2 q s) := fun p q r s => by
   rw [sd, ← sd q r s, rB q r, sd r q s, ← sd]
  show mul2 (pw2 (mul2 x y) n) (mul2 x y) = mul2 (mul2 (pw2 x n) x) (mul2 (pw2 y n) y)
  rw [IY x y n, e]
theorem Lc (x y : Fin Pp) : mul2 (x, 0) (y, 0) = (x * y, 0) := by
 refine sJ ?_ ?_
 ·show x * y - 0 * 0 = x * y; grind
 ·show (x + 0) * (y + 0) - x * y - 0 * 0 = 0; grind
theorem zD (x : Fin Pp) : ∀ n, pw2 (x, 0) n = (pwP x n, 0)
 | 0 => rfl
 | n + 1 => by
  show mul2 (pw2 (x, 0) n) (x, 0) = (pwP x n * x, 0)
  rw [zD x n, Lc]
theorem Sf : ((1 : G2) : F2) = one2 := um
theorem IS : ∀ n : Nat, ((nc n : G2) : F2) = (ofP n, 0)
 | 0 => by show ((0, 0) : F2) = (ofP 0, 0); decide
 | n + 1 => by
  have e : ofP (n + 1) = ofP n + 1 := Fin.ext (by
   rw [Fin.val_add]
   show (n + 1) % Pp = (n % Pp + 1 % Pp) % Pp
   rw [Nat.add_mod])
  show qR (nc n) (1 : G2) = (ofP (n + 1), 0)
  rw [IS n, Sf, e]
  generalize ofP n = x
  refine sJ rfl ?_
  show (0 : Fin Pp) + 0 = 0
  decide
theorem Za : (nc Pp : G2) = 0 := by
 have h := IS Pp
 rw [show ofP Pp = 0 by decide] at h
 exact h
theorem Bl (a : F2) : ∀ n, (pwr (a : G2) n : F2) = pw2 a n
 | 0 => Sf
 | n + 1 => by
  show mul2 (pwr (a : G2) n) a = mul2 (pw2 a n) a
  rw [Bl a n]
theorem SJ (x y : F2) : pw2 (qR x y) Pp = qR (pw2 x Pp) (pw2 y Pp) := by
 have h := dream (α := G2) ES Za x y
 rw [← Bl (qR x y) Pp, ← Bl x Pp, ← Bl y Pp]
 exact h
theorem Iv (x : Fin Pp) (m : Nat) (h : Pp = m + 1) : pwP x (m + 1) = x := by
 rw [xW]
 by_cases h0 : x = 0
 ·rw [h0]; generalize pwP 0 m = z; grind
 ·rw [xm h0 m (by omega)]; grind
def uF : F2 := (0, 1)
theorem XN (n : Nat) : pw2 uF (2 * n + 1) = mul2 (pwP (-1) n, 0) uF := by
 have h : pw2 uF (2 * n) = pw2 (pw2 uF 2) n := M2K.pw_mul uF 2 n
 show mul2 (pw2 uF (2 * n)) uF = _
 rw [h, show pw2 uF 2 = (-1, 0) by decide, zD]
theorem u_p (m : Nat) (h : Pp = m) (h2 : m = 2 * zt + 1) : pw2 uF m = (0, -1) := by
 rw [h2, XN, GO]
 decide
theorem ND (x y : F2) (n : Nat) (h : n = Pp) : pw2 (qR x y) n = qR (pw2 x n) (pw2 y n) := by
 subst h; exact SJ x y
theorem Qk (a : F2) (m : Nat) (h : Pp = m + 1) (h2 : m + 1 = 2 * zt + 1) : pw2 a (m + 1) = conj2 a := by
 have e : a = qR (a.1, 0) (mul2 (a.2, 0) uF) := by
  refine sJ ?_ ?_
  ·show a.1 = a.1 + (a.2 * 0 - 0 * 1); grind
  ·show a.2 = 0 + ((a.2 + 0) * (0 + 1) - a.2 * 0 - 0 * 1); grind
 have hd := ND (a.1, 0) (mul2 (a.2, 0) uF) (m + 1) h.symm
 rw [← e, IY, zD, zD, u_p (m + 1) h h2, Iv _ m h, Iv _ m h] at hd
 rw [hd]
 refine sJ ?_ ?_
 ·show a.1 + (a.2 * 0 - 0 * -1) = a.1; grind
 ·show 0 + ((a.2 + 0) * (0 + -1) - a.2 * 0 - 0 * -1) = -a.2; grind
def fpw : Nat -> F2 -> Nat -> F2
 | 0, _, _ => one2
 | f + 1, a, n => if n % 2 = 1 then mul2 (fpw f (mul2 a a) (n / 2)) a else fpw f (mul2 a a) (n / 2)
theorem Qr (a : F2) (n : Nat) : pw2 (mul2 a a) n = pw2 a (2 * n) := by
 have h : pw2 a (2 * n) = pw2 (pw2 a 2) n := M2K.pw_mul a 2 n
 rw [h]
 show _ = pw2 (mul2 (mul2 one2 a) a) n
 rw [rB one2, s7]
theorem Oq : ∀ (f : Nat) (a : F2) (n : Nat), n < 2 ^ f -> fpw f a n = pw2 a n
 | 0, a, n, h => by
  have : n = 0 := by simpa using h
  subst this; rfl
 | f + 1, a, n, h => by
  have hl : n / 2 < 2 ^ f := by rw [Nat.pow_succ] at h; omega
  unfold fpw
  rw [Oq f (mul2 a a) (n / 2) hl, Qr]
  split
  ·rename_i h1
   have e : n = 2 * (n / 2) + 1 := by omega
   show pw2 a (2 * (n / 2) + 1) = _
   rw [← e]
  ·have e : 2 * (n / 2) = n := by omega
   rw [e]
def turn1 : F2 := (3850754370037169011952147076051364057158807420970682438676050522613628423219637725072182697113062777891589506424760, 151655185184498381465642749684540099398075398968325446656007613510403227271200139370504932015952886146304766135027)
theorem LD (n : Nat) (hn : n < 2 ^ 400) (h : fpw 400 xi n = turn1) : pw2 xi n = turn1 := by
 rw [← Oq 400 xi n hn]; exact h
theorem L6 : fpw 400 xi 667068259203611232236298304289317359426147136656501314222009689354005275081806310740447938188169277339649045426631 = turn1 := by decide +kernel
end Go.Ev
set_option linter.unusedSimpArgs false
set_option linter.unusedVariables false
namespace Go.Ev
def pwK (a : F12) (n : Nat) : F12 := pw mul12 one12 a n
def z2 : F2 := (0, 0)
def at0 (c : F2) : F12 := ((c, z2, z2), (z2, z2, z2))
def wK : F12 := ((z2, z2, z2), (one2, z2, z2))
theorem NS (c : F2) : mul2 c z2 = z2 := ts c
theorem S0 (c : F2) : qR c z2 = c := wl c
theorem VG (c : F2) : qR z2 c = c := by rw [z9]; exact wl c
theorem wY (c : F2) (x : F12) : mul12 (at0 c) x = ((mul2 c x.1.1, mul2 c x.1.2.1, mul2 c x.1.2.2), (mul2 c x.2.1, mul2 c x.2.2.1, mul2 c x.2.2.2)) := by
 have e : ∀ y : F6, mul6 (c, z2, z2) y = (mul2 c y.1, mul2 c y.2.1, mul2 c y.2.2) := fun y => by
  apply vm
  rw [sw]
  have h : t6 (c, z2, z2) = ⟨(c : G2), 0, 0⟩ := rfl
  rw [h]
  have h2 : t6 (mul2 c y.1, mul2 c y.2.1, mul2 c y.2.2) = ⟨(c : G2) * (y.1 : G2), (c : G2) * (y.2.1 : G2), (c : G2) * (y.2.2 : G2)⟩ := rfl
  rw [h2]
  simp only [vE, t6, T3.mk.injEq]
  refine ⟨?_, ?_, ?_⟩ <;> grind
 refine ext12 ?_ ?_
 ·have h := tK (at0 c) x
  have h1 : ((at0 c).2 : G6) = 0 := rfl
  rw [h, h1]
  have h2 : (((at0 c).1 : G6) * (x.1 : G6) + 0 * (x.2 : G6) * vG : G6) = ((at0 c).1 : G6) * (x.1 : G6) := by grind
  rw [h2]
  exact e x.1
 ·have h := tC (at0 c) x
  have h1 : ((at0 c).2 : G6) = 0 := rfl
  rw [h, h1]
  have h2 : (((at0 c).1 : G6) * (x.2 : G6) + 0 * (x.1 : G6) : G6) = ((at0 c).1 : G6) * (x.2 : G6) := by grind
  rw [h2]
  exact e x.2
theorem ug (c d : F2) : mul12 (at0 c) (at0 d) = at0 (mul2 c d) := by
 rw [wY]; simp only [at0, NS]
theorem Hw (c : F2) : ∀ n, pwK (at0 c) n = at0 (pw2 c n)
 | 0 => rfl
 | n + 1 => by
  show mul12 (pwK (at0 c) n) (at0 c) = at0 (mul2 (pw2 c n) c)
  rw [Hw c n, ug]
def w2K : F12 := ((z2, one2, z2), (z2, z2, z2))
def w3K : F12 := ((z2, z2, z2), (z2, one2, z2))
def w4K : F12 := ((z2, z2, one2), (z2, z2, z2))
def w5K : F12 := ((z2, z2, z2), (z2, z2, one2))
theorem Ws : mul12 wK wK = w2K := by decide
theorem Pz : mul12 w2K wK = w3K := by decide
theorem S8 : mul12 w2K w2K = w4K := by decide
theorem TX : mul12 w4K wK = w5K := by decide
theorem DA (a : F12) : a = q8 (q8 (q8 (at0 a.1.1) (mul12 (at0 a.1.2.1) w2K)) (mul12 (at0 a.1.2.2) w4K)) (q8 (q8 (mul12 (at0 a.2.1) wK) (mul12 (at0 a.2.2.1) w3K)) (mul12 (at0 a.2.2.2) w5K)) := by
 rw [wY, wY, wY, wY, wY]
 refine ext12 (vv ?_ ?_ ?_) (vv ?_ ?_ ?_) <;> simp only [q8, sR, at0, wK, w2K, w3K, w4K, w5K, NS, s7, S0, VG]
theorem Rm (n : Nat) : pwK wK (6 * n) = at0 (pw2 xi n) := by
 have h : pwK wK (6 * n) = pwK (pwK wK 6) n := MK.pw_mul wK 6 n
 have h6 : pwK wK 6 = at0 xi := by decide
 rw [h, h6, Hw]
theorem w_p (n m : Nat) (hn : n < 2 ^ 400) (h : fpw 400 xi n = turn1) (e : m = 6 * n + 1) : pwK wK m = mul12 (at0 turn1) wK := by
 rw [e]
 show mul12 (pwK wK (6 * n)) wK = _
 rw [Rm, LD n hn h]
def vy : F2 := mul2 turn1 turn1
def xE : F2 := mul2 vy turn1
def xf : F2 := mul2 vy vy
def xP : F2 := mul2 xf turn1
def frobT (a : F12) : F12 := ((conj2 a.1.1, mul2 (conj2 a.1.2.1) vy, mul2 (conj2 a.1.2.2) xf), (mul2 (conj2 a.2.1) turn1, mul2 (conj2 a.2.2.1) xE, mul2 (conj2 a.2.2.2) xP))
theorem yH (x y : F12) (n : Nat) (h : n = Pp) : pwK (q8 x y) n = q8 (pwK x n) (pwK y n) := by
 subst h; exact QG x y
theorem tM (x y : F12) (n : Nat) : pwK (mul12 x y) n = mul12 (pwK x n) (pwK y n) := FP x y n
theorem J5 (p q r s : F12) : mul12 (mul12 p q) (mul12 r s) = mul12 (mul12 p r) (mul12 q s) := by
 rw [qJ, ← qJ q r s, r9 q r, qJ r q s, ← qJ]
theorem Mf (a : F12) (k n : Nat) (hk : Pp = k + 1) (h2 : k + 1 = 2 * zt + 1) (hn : n < 2 ^ 400) (ht : fpw 400 xi n = turn1) (e : k + 1 = 6 * n + 1) : pwK a (k + 1) = frobT a := by
 have w1 := w_p n (k + 1) hn ht e
 have hw2 : pwK w2K (k + 1) = mul12 (at0 vy) w2K := by
  rw [← Ws, tM, w1, J5, ug]; rfl
 have hw3 : pwK w3K (k + 1) = mul12 (at0 xE) w3K := by
  rw [← Pz, tM, w1, hw2, J5, ug]; rfl
 have hw4 : pwK w4K (k + 1) = mul12 (at0 xf) w4K := by
  rw [← S8, tM, hw2, J5, ug]; rfl
 have hw5 : pwK w5K (k + 1) = mul12 (at0 xP) w5K := by
  rw [← TX, tM, w1, hw4, J5, ug]; rfl
 have hc : ∀ c : F2, pwK (at0 c) (k + 1) = at0 (conj2 c) := fun c => by rw [Hw, Qk c k hk h2]
 have h6 := DA a
 have h7 : pwK a (k + 1) = pwK (q8 (q8 (q8 (at0 a.1.1) (mul12 (at0 a.1.2.1) w2K)) (mul12 (at0 a.1.2.2) w4K)) (q8 (q8 (mul12 (at0 a.2.1) wK) (mul12 (at0 a.2.2.1) w3K)) (mul12 (at0 a.2.2.2) w5K))) (k + 1) := congrArg (fun z => pwK z (k + 1)) h6
 rw [h7, yH _ _ _ hk.symm, yH _ _ _ hk.symm, yH _ _ _ hk.symm, yH _ _ _ hk.symm, yH _ _ _ hk.symm, tM, tM, tM, tM, tM, w1, hw2, hw3, hw4, hw5, hc, hc, hc, hc, hc, hc]
 rw [← qJ, ← qJ, ← qJ, ← qJ, ← qJ, ug, ug, ug, ug, ug]
 exact (DA (frobT a)).symm
theorem uE (a : F12) (m : Nat) (h : m = 4002409555221667393417789825735904156556882819939007885332058136124031650490837864442687629129015664037894272559787) : pwK a m = frobT a := by
 subst h
 exact Mf a 4002409555221667393417789825735904156556882819939007885332058136124031650490837864442687629129015664037894272559786 667068259203611232236298304289317359426147136656501314222009689354005275081806310740447938188169277339649045426631 (by decide) (by decide) (by decide +kernel) L6 (by decide)
end Go.Ev
set_option linter.unusedSimpArgs false
set_option linter.unusedVariables false
namespace Go.Proofs.YtfbkefgoblcmpaaGreat
open Go.Ev Go.RowKit
open Tryz
def tc1 : F2 := (3850754370037169011952147076051364057158807420970682438676050522613628423219637725072182697113062777891589506424760, 151655185184498381465642749684540099398075398968325446656007613510403227271200139370504932015952886146304766135027)
theorem N7 : turn1 = tc1 := by decide +kernel
theorem UX : Gives prog 84 [.t (vi0 1)] (.ag (m2 turn1)) := by
 rw [N7]
 exact qa (P := prog) (env := [zU]) ⟨sU, tt0⟩ func84 0 o0 (by kernel_rfl) (ai (show qP (3850754370037169011952147076051364057158807420970682438676050522613628423219637725072182697113062777891589506424760, 151655185184498381465642749684540099398075398968325446656007613510403227271200139370504932015952886146304766135027) from (by unfold qP small; decide +kernel)) tt0)
def tc2 : F2 := (0, 4002409555221667392624310435006688643935503118305586438271171395842971157480381377015405980053539358417135540939436)
theorem MI : vy = tc2 := by decide +kernel
theorem Uv : Gives prog 84 [.t (vi0 2)] (.ag (m2 vy)) := by
 rw [MI]
 exact qa (P := prog) (env := [zU]) ⟨sU, tt0⟩ func84 0 o0 (by kernel_rfl) (ai (show qP (0, 4002409555221667392624310435006688643935503118305586438271171395842971157480381377015405980053539358417135540939436) from (by unfold qP small; decide +kernel)) tt0)
def tc3 : F2 := (1028732146235106349975324479215795277384839936929757896155643118032610843298655225875571310552543014690878354869257, 1028732146235106349975324479215795277384839936929757896155643118032610843298655225875571310552543014690878354869257)
theorem LX : xE = tc3 := by decide +kernel
theorem UE : Gives prog 84 [.t (vi0 3)] (.ag (m2 xE)) := by
 rw [LX]
 exact qa (P := prog) (env := [zU]) ⟨sU, tt0⟩ func84 0 o0 (by kernel_rfl) (ai (show qP (1028732146235106349975324479215795277384839936929757896155643118032610843298655225875571310552543014690878354869257, 1028732146235106349975324479215795277384839936929757896155643118032610843298655225875571310552543014690878354869257) from (by unfold qP small; decide +kernel)) tt0)
def tc4 : F2 := (4002409555221667392624310435006688643935503118305586438271171395842971157480381377015405980053539358417135540939437, 0)
theorem LB : xf = tc4 := by decide +kernel
theorem VH : Gives prog 84 [.t (vi0 4)] (.ag (m2 xf)) := by
 rw [LB]
 exact qa (P := prog) (env := [zU]) ⟨sU, tt0⟩ func84 0 o0 (by kernel_rfl) (ai (show qP (4002409555221667392624310435006688643935503118305586438271171395842971157480381377015405980053539358417135540939437, 0) from (by unfold qP small; decide +kernel)) tt0)
def tc5 : F2 := (877076961050607968509681729531255177986764537961432449499635504522207616027455086505066378536590128544573588734230, 3125332594171059424908108096204648978570118281977575435832422631601824034463382777937621250592425535493320683825557)
theorem Oc : xP = tc5 := by decide +kernel
theorem UL : Gives prog 84 [.t (vi0 5)] (.ag (m2 xP)) := by
 rw [Oc]
 exact qa (P := prog) (env := [zU]) ⟨sU, tt0⟩ func84 0 o0 (by kernel_rfl) (ai (show qP (877076961050607968509681729531255177986764537961432449499635504522207616027455086505066378536590128544573588734230, 3125332594171059424908108096204648978570118281977575435832422631601824034463382777937621250592425535493320683825557) from (by unfold qP small; decide +kernel)) tt0)
def Sk : Nat -> F2
 | 1 => turn1
 | 2 => vy
 | 3 => xE
 | 4 => xf
 | _ => xP
theorem PD (z : Int) (h : 1 <= z /\ z <= 5) : Gives prog 84 [.t (vi0 z)] (.ag (m2 (Sk z.toNat))) := by
 obtain h | h | h | h | h : z = 1 ∨ z = 2 ∨ z = 3 ∨ z = 4 ∨ z = 5 := by omega
 ·subst h; exact UX
 ·subst h; exact Uv
 ·subst h; exact UE
 ·subst h; exact VH
 ·subst h; exact UL
def Sc : Entry := qA 84 (XPar.int .i64) (fun z => [(some (1 <= z /\ z <= 5), .ag (m2 (Sk z.toNat)))])
theorem MC : Sc.OK prog := qj (fun args w => Go.Proofs.enters_of (P := prog) func84 (by kernel_rfl) rfl args w) (fun z => sZ (fun h => PD z h))
def Ti : Entry := qA 60 zb.x (fun a => [(none, .ag (m12 (frobT a)))])
theorem Kt : Ti.OK prog := qj (fun args w => Go.Proofs.enters_of (P := prog) func60 (by kernel_rfl) rfl args w) (fun a => only (qa (P := prog) (env := [Lj, rD, Sc]) ⟨K2, qG, MC, tt0⟩ func60 0 o0 (by kernel_rfl) (ai (show (1 : Int) <= 5 /\ (5 : Int) <= 5 by decide) (ai (show (1 : Int) <= 3 /\ (3 : Int) <= 5 by decide) (ai (show (1 : Int) <= 1 /\ (1 : Int) <= 5 by decide) (ai (show (1 : Int) <= 4 /\ (4 : Int) <= 5 by decide) (ai (show (1 : Int) <= 2 /\ (2 : Int) <= 5 by decide) tt0)))))))
end Go.Proofs.YtfbkefgoblcmpaaGreat
set_option linter.unusedVariables false
namespace Go.Ev
open Lean.Grind
section
variable {K : Type} [CommRing K]
theorem So (d e x1 x2 x3 : K) : (d * x1 + e) * (d * x2 + e) * (d * x3 + e) = d * d * d * (x1 * x2 * x3) + d * d * e * (x1 * x2 + x1 * x3 + x2 * x3) + d * e * e * (x1 + x2 + x3) + e * e * e := by grobner
theorem XD (b l n k q : K) : (k - l) * (k - l) * (k - l) * (q * q - b) + (k - l) * (k - l) * (q - n) * (-(2 * k * q)) + (k - l) * (q - n) * (q - n) * (k * k) + (q - n) * (q - n) * (q - n)
  = -((l - k) * (l - k) * (l - k) * (n * n - b) + (l - k) * (l - k) * (n - q) * (-(2 * l * n)) + (l - k) * (n - q) * (n - q) * (l * l) + (n - q) * (n - q) * (n - q)) := by grobner
theorem rcp {b l n k q x1 x2 x3 a1 a2 a3 : K} (p1 : x1 + x2 + x3 = k * k) (p2 : x1 * x2 + x1 * x3 + x2 * x3 = -(2 * k * q)) (p3 : x1 * x2 * x3 = q * q - b)
  (r1 : a1 + a2 + a3 = l * l) (r2 : a1 * a2 + a1 * a3 + a2 * a3 = -(2 * l * n)) (r3 : a1 * a2 * a3 = n * n - b) :
  ((k - l) * x1 + (q - n)) * ((k - l) * x2 + (q - n)) * ((k - l) * x3 + (q - n)) = -(((l - k) * a1 + (n - q)) * ((l - k) * a2 + (n - q)) * ((l - k) * a3 + (n - q))) := by
 rw [So, So, p1, p2, p3, r1, r2, r3]
 exact XD b l n k q
theorem RK {x u s l : K} (h : u + s = l * l - 3 * x) : (x + u) + x + (x + s) = l * l := by grobner
theorem RU {x y u s l : K} (h : u + s = l * l - 3 * x) (h2 : u * s = 3 * x * x - 2 * y * l) : (x + u) * x + (x + u) * (x + s) + x * (x + s) = -(2 * l * (y - l * x)) := by
 have e : (x + u) * x + (x + u) * (x + s) + x * (x + s) = 3 * x * x + 2 * x * (u + s) + u * s := by clear h h2; grobner
 rw [e, h, h2]; clear h h2 e; grobner
theorem R8 {b x y u s l : K} (hc : y * y = x * x * x + b) (h : u + s = l * l - 3 * x) (h2 : u * s = 3 * x * x - 2 * y * l) : (x + u) * x * (x + s) = (y - l * x) * (y - l * x) - b := by
 have e : (x + u) * x * (x + s) = x * x * x + x * x * (u + s) + x * (u * s) := by clear h h2 hc; grobner
 have e2 : (y - l * x) * (y - l * x) - b = (y * y - b) - 2 * y * l * x + l * l * x * x := by clear h h2 hc e; grobner
 rw [e, e2, h, h2, hc]; clear h h2 e e2 hc; grobner
theorem WM {x y l m k4 u v s t X h : K} (a1 : u + s = l * l - 3 * x) (b1 : v + t = m * m - 3 * x) (b2 : v * t = 3 * x * x - 2 * y * m) (a2 : u * s = 3 * x * x - 2 * y * l) (d3 : y + l * u = -(y + m * t) + k4 * (u - t)) (F2 : (l - m) * (k4 + m) = u - v)
  (hc : h * h + 2 * y * h = X * X * X + 3 * x * X * X + 3 * x * x * X) :
  (h - l * X) * (h - m * v - (k4 + m - l) * (X - v)) * (X - t) = (h - m * X) * (h - l * u - k4 * (X - u)) * (X - s) := by
 have hu : u = v + (l - m) * (k4 + m) := by clear a1 b1 b2 a2 d3 hc; rw [F2]; grobner
 have hs : s = l * l - 3 * x - u := by clear b1 b2 a2 d3 hc F2 hu; grobner
 have ht : t = m * m - 3 * x - v := by clear a1 b2 a2 d3 hc F2 hu hs; grobner
 clear a1 b1 F2
 subst hs ht
 subst hu
 grobner
end
end Go.Ev
set_option linter.unusedSimpArgs false
set_option linter.unusedVariables false
namespace Go.Ev
def pN : Nat := 4002409555221667393417789825735904156556882819939007885332058136124031650490837864442687629129015664037894272559787
theorem Nc (a b : F12) : frobT (q8 a b) = q8 (frobT a) (frobT b) := by
 rw [← uE (q8 a b) pN rfl, ← uE a pN rfl, ← uE b pN rfl]
 exact yH a b pN (by decide)
theorem vj (a b : F12) : frobT (mul12 a b) = mul12 (frobT a) (frobT b) := by
 rw [← uE (mul12 a b) pN rfl, ← uE a pN rfl, ← uE b pN rfl]
 exact tM a b pN
theorem UO (x t : F2) : mul2 (conj2 (mul2 (conj2 x) t)) t = mul2 x (mul2 (conj2 t) t) := by
 refine sJ ?_ ?_ <;> simp only [mul2, conj2] <;> grind
theorem LK (x t e : F2) (h : mul2 (mul2 (mul2 (conj2 t) t) (mul2 (conj2 t) t)) (mul2 (conj2 t) t) = e) :
  mul2 (conj2 (mul2 (conj2 (mul2 (conj2 (mul2 (conj2 (mul2 (conj2 (mul2 (conj2 x) t)) t)) t)) t)) t)) t = mul2 x e := by
 rw [UO, UO, UO, sd, sd, ← sd (mul2 (conj2 t) t), h]
theorem yD (x : F2) : conj2 (conj2 x) = x := by
 refine sJ rfl ?_
 show - -x.2 = x.2
 grind
theorem wH (x : F2) : mul2 x (-1, 0) = uq x := by
 refine sJ ?_ ?_ <;> simp only [mul2, uq] <;> grind
theorem aaa : mul2 (mul2 (mul2 (conj2 turn1) turn1) (mul2 (conj2 turn1) turn1)) (mul2 (conj2 turn1) turn1) = (-1, 0) := by decide +kernel
theorem Zw : mul2 (mul2 (mul2 (conj2 vy) vy) (mul2 (conj2 vy) vy)) (mul2 (conj2 vy) vy) = one2 := by decide +kernel
theorem ZF : mul2 (mul2 (mul2 (conj2 xE) xE) (mul2 (conj2 xE) xE)) (mul2 (conj2 xE) xE) = (-1, 0) := by decide +kernel
theorem aac : mul2 (mul2 (mul2 (conj2 xf) xf) (mul2 (conj2 xf) xf)) (mul2 (conj2 xf) xf) = one2 := by decide +kernel
theorem Zn : mul2 (mul2 (mul2 (conj2 xP) xP) (mul2 (conj2 xP) xP)) (mul2 (conj2 xP) xP) = (-1, 0) := by decide +kernel
theorem wp (a : F12) : frobT (frobT (frobT (frobT (frobT (frobT a))))) = conj12 a := by
 refine ext12 (vv ?_ ?_ ?_) (vv ?_ ?_ ?_)
 ·exact (yD _).trans ((yD _).trans (yD _))
 ·exact (LK _ _ _ Zw).trans (s7 _)
 ·exact (LK _ _ _ aac).trans (s7 _)
 ·exact (LK _ _ _ aaa).trans (wH _)
 ·exact (LK _ _ _ ZF).trans (wH _)
 ·exact (LK _ _ _ Zn).trans (wH _)
theorem GE (a : F12) : conj12 (conj12 a) = a := ext12 rfl (zk _)
end Go.Ev
set_option linter.unusedVariables false
set_option linter.unusedSimpArgs false
namespace Go.Ev
theorem xu : (1 : K12) = one12 := tB
theorem AG {x : K12} (h : x ≠ 0) : x * (inv12 x : K12) = 1 := (K9 h).trans tB.symm
theorem zr {x y : K12} (h : x * y = 0) : x = 0 ∨ y = 0 := by
 by_cases hx : x = 0
 ·exact .inl hx
 ·right
  have h1 := AG hx
  generalize (inv12 x : K12) = i at h1
  have : y = (x * i) * y := by rw [h1]; clear h h1; grobner
  rw [this]
  have e : x * i * y = i * (x * y) := by clear h h1 this; grobner
  rw [e, h]; clear h h1 this e; grobner
theorem neK {x y : K12} (hx : x ≠ 0) (hy : y ≠ 0) : x * y ≠ 0 := fun e => by
 rcases zr e with e | e
 ·exact hx e
 ·exact hy e
theorem ZU {a x y : K12} (h : a ≠ 0) (e : a * x = a * y) : x = y := by
 have : a * (x - y) = 0 := by clear h; grobner
 rcases zr this with h1 | h1
 ·exact absurd h1 h
 ·clear e this h; grobner
theorem uB (a : K12) : pwK a 0 = 1 := tB.symm
theorem xl (a : K12) (n : Nat) : pwK a (n + 1) = (pwK a n : K12) * a := rfl
theorem zi (a : K12) (m n : Nat) : pwK a (m + n) = (pwK a m : K12) * pwK a n := MK.pw_add a m n
theorem Ey (a : K12) (m n : Nat) : pwK a (m * n) = pwK (pwK a m) n := MK.pw_mul a m n
theorem vt (a b : K12) (n : Nat) : pwK (a * b : K12) n = (pwK a n : K12) * pwK b n := tM a b n
theorem vH (n : Nat) : pwK (1 : K12) n = 1 := by
 induction n with
 | zero => exact uB _
 | succ n ih => rw [xl, ih]; clear ih; grobner
theorem qq (a b : K12) : conj12 (a * b : K12) = (conj12 a : K12) * conj12 b := by
 have h1 := wp (mul12 a b)
 rw [vj, vj, vj, vj, vj, vj, wp, wp] at h1
 exact h1.symm
theorem v7 (a : K12) : conj12 (conj12 a) = a := GE a
theorem q9 : conj12 (1 : K12) = 1 := by decide
theorem uH (a : K12) (n : Nat) : conj12 (pwK a n) = pwK (conj12 a) n := by
 induction n with
 | zero => rw [uB, uB]; exact q9
 | succ n ih => rw [xl, qq, ih]; rfl
theorem qo (a b : K12) : frobT (a * b : K12) = (frobT a : K12) * frobT b := vj a b
theorem wE (a : K12) (n : Nat) : frobT (pwK a n) = pwK (frobT a) n := by
 rw [← uE a pN rfl, ← uE (pwK a n) pN rfl, ← Ey, ← Ey, Nat.mul_comm]
theorem rS (a : K12) : frobT (conj12 a) = conj12 (frobT a) := by
 rw [← wp a, ← wp (frobT a)]
def zpK (a : K12) (n : Int) : K12 := (pwK a n.toNat : K12) * pwK (conj12 a) (-n).toNat
theorem MN {a : K12} (h : a * (conj12 a : K12) = 1) (k : Nat) : (pwK a k : K12) * pwK (conj12 a) k = 1 := by
 rw [← vt, h, vH]
theorem Is {a : K12} (h : a * (conj12 a : K12) = 1) (p q : Nat) : (pwK a p : K12) * pwK (conj12 a) q = zpK a ((p : Int) - q) := by
 unfold zpK
 obtain ⟨k, h1, h2⟩ : ∃ k, p = ((p : Int) - q).toNat + k /\ q = (-((p : Int) - q)).toNat + k := ⟨min p q, by omega, by omega⟩
 generalize ((p : Int) - q).toNat = p' at h1 ⊢
 generalize (-((p : Int) - q)).toNat = q' at h2 ⊢
 subst h1
 rw [h2, zi, zi]
 have hk := MN h k
 generalize (pwK a k : K12) = x at hk
 generalize (pwK (conj12 a) k : K12) = y at hk
 have e : (pwK a p' : K12) * x * ((pwK (conj12 a) q' : K12) * y) = (pwK a p' : K12) * pwK (conj12 a) q' * (x * y) := by clear hk h h2; grobner
 rw [e, hk]; clear e hk h h2; grobner
theorem yn {a : K12} (h : a * (conj12 a : K12) = 1) (m n : Int) : zpK a (m + n) = zpK a m * zpK a n := by
 have e : zpK a m * zpK a n = (pwK a (m.toNat + n.toNat) : K12) * pwK (conj12 a) ((-m).toNat + (-n).toNat) := by
  unfold zpK
  rw [zi, zi]
  clear h; grobner
 rw [e, Is h]
 congr 1
 omega
theorem zE {a : K12} (h : a * (conj12 a : K12) = 1) (m : Int) : ∀ k : Nat, pwK (zpK a m) k = zpK a (m * k)
 | 0 => by
  rw [uB]
  have := Is h 0 0
  rw [uB, uB] at this
  simp only [Int.natCast_zero, Int.mul_zero]
  rw [← show ((0 : Nat) : Int) - ((0 : Nat) : Int) = 0 from rfl, ← this]
  clear this h; grobner
 | k + 1 => by
  rw [xl, zE h m k, ← yn h]
  congr 1
  rw [Int.natCast_succ, Int.mul_add, Int.mul_one]
theorem zn {a : K12} (h : a * (conj12 a : K12) = 1) (n : Int) : conj12 (zpK a n) = zpK a (-n) := by
 have e : conj12 (zpK a n) = (pwK a (-n).toNat : K12) * pwK (conj12 a) n.toNat := by
  unfold zpK
  rw [qq, uH, uH, v7]
  clear h; grobner
 rw [e, Is h]
 congr 1
 omega
theorem Bm (a : K12) (n : Int) : frobT (zpK a n) = zpK (frobT a) n := by
 unfold zpK
 rw [qo, wE, wE, rS]
theorem TP (a b : K12) (n : Int) : zpK (a * b : K12) n = zpK a n * zpK b n := by
 unfold zpK
 rw [qq, vt, vt]
 grobner
theorem US {a : K12} (h : a * (conj12 a : K12) = 1) (n : Int) : zpK (conj12 a) n = zpK a (-n) := by
 rw [← zn h]
 unfold zpK
 rw [qq, uH, uH]
end Go.Ev
set_option linter.unusedVariables false
set_option linter.unusedSimpArgs false
set_option linter.unusedSectionVars false
namespace Go.Ev
def xT : Nat := 15132376222941642752
def fn1 (f : K12) : K12 := (conj12 f : K12) * inv12 f
def fn2 (f : K12) : K12 := (frobT (frobT (fn1 f)) : K12) * fn1 f
def fng (f : K12) : K12 := pwK (pwK (fn2 f) (xT + 1)) ((xT + 1) / 3)
def fnh (f : K12) : K12 := (conj12 (pwK (fng f) xT) : K12) * frobT (fng f)
def finK (f : K12) : K12 := (pwK (pwK (fnh f) xT) xT : K12) * frobT (frobT (fnh f)) * conj12 (fnh f) * fn2 f
theorem If {x y : K12} (h : x * y = 1) : (inv12 x : K12) = y := by
 have hx : x ≠ 0 := fun e => by
  subst e
  have : (0 : K12) = 1 := by rw [← h]; clear h; grobner
  exact absurd this (by decide)
 have h1 := AG hx
 exact ZU hx (h1.trans h.symm)
theorem UJ {x y : K12} (hx : x ≠ 0) (hy : y ≠ 0) : (inv12 (x * y) : K12) = (inv12 x : K12) * inv12 y := by
 have h1 := AG hx
 have h2 := AG hy
 refine If ?_
 generalize (inv12 x : K12) = i at *
 generalize (inv12 y : K12) = j at *
 have e : x * y * (i * j) = (x * i) * (y * j) := by clear h1 h2 hx hy; grobner
 rw [e, h1, h2]; clear h1 h2 hx hy e; grobner
theorem sw4 (a b c d : K12) : a * b * (c * d) = (a * c) * (b * d) := by grobner
theorem Uc {x y : K12} (hx : x ≠ 0) (hy : y ≠ 0) : fn1 (x * y) = fn1 x * fn1 y := by
 unfold fn1
 rw [qq, UJ hx hy]
 exact sw4 _ _ _ _
theorem M2 {x y : K12} (hx : x ≠ 0) (hy : y ≠ 0) : fn2 (x * y) = fn2 x * fn2 y := by
 unfold fn2
 rw [Uc hx hy, qo, qo]
 exact sw4 _ _ _ _
theorem T8 {x y : K12} (hx : x ≠ 0) (hy : y ≠ 0) : fng (x * y) = fng x * fng y := by
 unfold fng
 rw [M2 hx hy, vt, vt]
theorem SL {x y : K12} (hx : x ≠ 0) (hy : y ≠ 0) : fnh (x * y) = fnh x * fnh y := by
 unfold fnh
 rw [T8 hx hy, vt, qq, qo]
 exact sw4 _ _ _ _
theorem sw8 (a b c d a' b' c' d' : K12) : (a * a') * (b * b') * (c * c') * (d * d') = (a * b * c * d) * (a' * b' * c' * d') := by grobner
theorem sF {x y : K12} (hx : x ≠ 0) (hy : y ≠ 0) : finK (x * y) = finK x * finK y := by
 unfold finK
 rw [SL hx hy, M2 hx hy, vt, vt, qo, qo, qq]
 exact sw8 _ _ _ _ _ _ _ _
theorem rK : frobT (1 : K12) = 1 := by decide
theorem OZ {x : K12} (h : fn2 x = 1) : finK x = 1 := by
 have hg : fng x = 1 := by unfold fng; rw [h, vH, vH]
 have hh : fnh x = 1 := by
  unfold fnh
  rw [hg, vH, q9, rK]; grobner
 unfold finK
 rw [hh, h, vH, vH, rK, rK, q9]; grobner
theorem wM {x : K12} (hx : x ≠ 0) (h : conj12 x = x) : finK x = 1 := by
 refine OZ ?_
 have h1 : fn1 x = 1 := by unfold fn1; rw [h]; exact AG hx
 unfold fn2
 rw [h1, rK, rK]; grobner
theorem LH : frobT (-1 : K12) = -1 := by decide
theorem Ow {f : K12} (hf : f ≠ 0) : fn1 f * (conj12 (fn1 f) : K12) = 1 := by
 have hi := AG hf
 have hc : (conj12 f : K12) * conj12 (inv12 f) = 1 := by rw [← qq, hi]; exact q9
 unfold fn1
 rw [qq, v7]
 generalize (inv12 f : K12) = i at *
 generalize (conj12 f : K12) = c at *
 generalize (conj12 i : K12) = j at *
 have e : c * i * (f * j) = (f * i) * (c * j) := by clear hi hc; grobner
 rw [e, hi, hc]; clear hi hc e; grobner
theorem Td {f : K12} (hf : f ≠ 0) : fn2 f * (conj12 (fn2 f) : K12) = 1 := by
 have h := Ow hf
 have h2 : (frobT (frobT (fn1 f)) : K12) * frobT (frobT (conj12 (fn1 f))) = 1 := by rw [← qo, ← qo, h, rK, rK]
 unfold fn2
 rw [qq, ← rS, ← rS, sw4, h2, h]; grobner
theorem OO {f : K12} (hf : f ≠ 0) : frobT (frobT (frobT (frobT (fn2 f)))) = (frobT (frobT (fn2 f)) : K12) * conj12 (fn2 f) := by
 have h := Ow hf
 have h6 := wp (fn1 f)
 unfold fn2
 rw [qq, qo, qo, qo, qo, h6]
 have h2 : (frobT (frobT (fn1 f)) : K12) * conj12 (frobT (frobT (fn1 f))) = 1 := by rw [← rS, ← rS, ← qo, ← qo, h, rK, rK]
 generalize (frobT (frobT (fn1 f)) : K12) = a at *
 generalize (frobT (frobT a) : K12) = b at *
 generalize (conj12 (fn1 f) : K12) = c at *
 generalize (conj12 a : K12) = d at *
 have e : b * a * (d * c) = (a * d) * (c * b) := by clear h h2 h6; grobner
 rw [e, h2]; clear h h2 h6 e; grobner
def vpK (z : K12) (a b c d : Int) : K12 := zpK z a * zpK (frobT z) b * zpK (frobT (frobT z)) c * zpK (frobT (frobT (frobT z))) d
section
variable {z : K12} (hu : z * (conj12 z : K12) = 1)
include hu
theorem sg : (frobT z : K12) * (conj12 (frobT z) : K12) = 1 := by rw [← rS, ← qo, hu, rK]
theorem DC (a b c d a' b' c' d' : Int) : vpK z a b c d * vpK z a' b' c' d' = vpK z (a + a') (b + b') (c + c') (d + d') := by
 unfold vpK
 rw [yn hu, yn (sg hu), yn (sg (sg hu)), yn (sg (sg (sg hu)))]
 exact (sw8 _ _ _ _ _ _ _ _).symm
theorem Ds (a b c d : Int) (k : Nat) : pwK (vpK z a b c d) k = vpK z (a * k) (b * k) (c * k) (d * k) := by
 unfold vpK
 rw [vt, vt, vt, zE hu, zE (sg hu), zE (sg (sg hu)), zE (sg (sg (sg hu)))]
theorem NI (a b c d : Int) : conj12 (vpK z a b c d) = vpK z (-a) (-b) (-c) (-d) := by
 unfold vpK
 rw [qq, qq, qq, zn hu, zn (sg hu), zn (sg (sg hu)), zn (sg (sg (sg hu)))]
theorem B0 (h4 : frobT (frobT (frobT (frobT z))) = (frobT (frobT z) : K12) * conj12 z) (a b c d : Int) : frobT (vpK z a b c d) = vpK z (-d) a (b + d) c := by
 unfold vpK
 rw [qo, qo, qo, Bm, Bm, Bm, Bm, h4, TP, US hu, yn (sg (sg hu))]
 grobner
theorem aap : vpK z 1 0 0 0 = z := by
 have h0 : ∀ a : K12, zpK a 0 = 1 := fun a => by unfold zpK; show (pwK a 0 : K12) * pwK (conj12 a) 0 = 1; rw [uB, uB]; grobner
 have h1 : zpK z 1 = z := by unfold zpK; show (pwK z 1 : K12) * pwK (conj12 z) 0 = z; rw [xl, uB, uB]; clear hu; grobner
 unfold vpK
 rw [h0, h0, h0, h1]; clear hu; grobner
end
theorem aaA (v a b : K12) : v * a * b = v * (a * b) := by grobner
theorem wZ (v : K12) : v * 1 = v := by grobner
theorem Qu {f : K12} (hf : f ≠ 0) : (pwK (finK f) xT : K12) * frobT (finK f) = 1 := by
 have hu := Td hf
 have h4 := OO hf
 have hz := aap hu
 have hfr : frobT (fn2 f) = pwK (fn2 f) pN := (uE _ _ rfl).symm
 unfold finK fnh fng
 generalize fn2 f = z at *
 generalize hc : (xT + 1) / 3 = c
 generalize hT : xT = T
 have hg : pwK (pwK z (T + 1)) c = vpK z (((T + 1) * c : Nat) : Int) 0 0 0 := by
  rw [← Ey]
  have := Ds hu 1 0 0 0 ((T + 1) * c)
  rw [hz] at this
  rw [this]
  simp
 have hmz : ∀ a b c d : Int, vpK z a b c d * z = vpK z (a + 1) b c d := fun a b c d => by
  have h := DC hu a b c d 1 0 0 0
  rw [hz] at h
  rw [h]
  simp
 rw [hg, Ds hu, NI hu, B0 hu h4, DC hu, Ds hu, Ds hu, B0 hu h4, B0 hu h4, NI hu, DC hu, DC hu, hmz, Ds hu, B0 hu h4, DC hu]
 have hone : vpK z (-((pN : Nat) : Int)) 1 0 0 = 1 := by
  have h0 : frobT z = vpK z 0 1 0 0 := by
   have h := B0 hu h4 1 0 0 0
   rw [hz] at h
   rw [h]; rfl
  have h1 : pwK z pN = vpK z ((pN : Nat) : Int) 0 0 0 := by
   have h := Ds hu 1 0 0 0 pN
   rw [hz] at h
   rw [h]
   simp
  have h2 : vpK z (-((pN : Nat) : Int)) 1 0 0 * vpK z ((pN : Nat) : Int) 0 0 0 = vpK z 0 1 0 0 := by
   rw [DC hu]; congr 1 <;> omega
  rw [← h0, ← h1, hfr] at h2
  have h3 := MN hu pN
  generalize (pwK z pN : K12) = a at *
  generalize (pwK (conj12 z) pN : K12) = b at *
  generalize vpK z (-((pN : Nat) : Int)) 1 0 0 = v at *
  have e : v = v * a * b := by
   rw [aaA, h3, wZ]
  rw [e, h2, h3]
 rw [← hone]
 subst hT
 subst hc
 congr 1 <;> decide
end Go.Ev
set_option linter.unusedVariables false
set_option linter.unusedSimpArgs false
namespace Go.Ev
def em2 (a : F2) : K12 := ((a, (0, 0), (0, 0)), zero6)
def wG : K12 := (zero6, B5)
def em6 (a : F6) : K12 := (a, zero6)
theorem Oy (a b : G6) : em6 (a * b) = em6 a * em6 b := by
 have e0 : (zero6 : G6) = 0 := rfl
 refine ext12 ?_ ?_
 ·show (a * b : G6) = (mul12 (em6 a) (em6 b)).1
  rw [tK]; show (a * b : G6) = a * b + (0 : G6) * 0 * vG; grobner
 ·show (0 : G6) = (mul12 (em6 a) (em6 b)).2
  rw [tC]; show (0 : G6) = a * 0 + 0 * b; grobner
theorem UB (a b : G6) : em6 (a + b) = em6 a + em6 b := by
 refine ext12 rfl ?_
 show (0 : G6) = (0 : G6) + 0
 grobner
theorem Ul (a : G6) : em6 (-a) = -em6 a := by
 refine ext12 rfl ?_
 show (0 : G6) = -(0 : G6)
 grobner
def up6 (a : F2) : F6 := (a, (0, 0), (0, 0))
theorem uL (a : F2) : em2 a = em6 (up6 a) := rfl
theorem NZ (a : F2) : t6 (up6 a) = ⟨(a : G2), 0, 0⟩ := rfl
theorem T9 (a b : G2) : up6 (a * b) = ((up6 a : G6) * up6 b : G6) := by
 apply vm
 show t6 (up6 (a * b)) = t6 (mul6 (up6 a) (up6 b))
 rw [sw, NZ, NZ, NZ]
 simp only [vE, T3.mk.injEq]
 refine ⟨?_, ?_, ?_⟩ <;> grobner
theorem Tp (a b : G2) : up6 (a + b) = ((up6 a : G6) + up6 b : G6) := by
 show up6 (qR a b) = sR (up6 a) (up6 b)
 refine vv rfl ?_ ?_ <;> exact (wl _).symm
theorem VR (a : G2) : up6 (-a) = (-(up6 a : G6) : G6) := by
 show up6 (uq a) = tW (up6 a)
 refine vv rfl ?_ ?_ <;> exact Ar.symm
theorem qQ (a b : G2) : em2 (a * b) = em2 a * em2 b := by rw [uL, uL, uL, T9, Oy]
theorem se (a b : G2) : em2 (a + b) = em2 a + em2 b := by rw [uL, uL, uL, Tp, UB]
theorem vd (a : G2) : em2 (-a) = -em2 a := by rw [uL, uL, VR, Ul]
theorem Np : em2 (0 : G2) = 0 := rfl
theorem Zh : em2 (1 : G2) = 1 := by
 rw [K7, xu]; rfl
theorem Ru (a : F6) : conj12 (em6 a) = em6 a := ext12 rfl yJ
theorem uK (a : F2) : conj12 (em2 a) = em2 a := Ru _
theorem It : conj12 wG = -wG := by
 refine ext12 ?_ rfl
 show (zero6 : G6) = -(0 : G6)
 have e0 : (zero6 : G6) = 0 := rfl
 rw [e0]; grobner
def up2 (p : Fin Pp) : F2 := (p, 0)
theorem U6 (a b : Fin Pp) : up2 (a * b) = ((up2 a : G2) * up2 b : G2) := by
 show (a * b, 0) = mul2 (a, 0) (b, 0)
 refine sJ ?_ ?_ <;> simp only [mul2] <;> grobner
theorem SY (a b : Fin Pp) : up2 (a + b) = ((up2 a : G2) + up2 b : G2) := by
 show (a + b, 0) = qR (a, 0) (b, 0)
 refine sJ rfl ?_
 show (0 : Fin Pp) = 0 + 0
 decide
theorem Vv (a : Fin Pp) : up2 (-a) = (-(up2 a : G2) : G2) := by
 show (-a, 0) = uq (a, 0)
 refine sJ rfl ?_
 show (0 : Fin Pp) = -0
 decide
def em1 (p : Fin Pp) : K12 := em2 (up2 p)
theorem uz (a b : Fin Pp) : em1 (a * b) = em1 a * em1 b := by unfold em1; rw [U6, qQ]
theorem BO (a b : Fin Pp) : em1 (a + b) = em1 a + em1 b := by unfold em1; rw [SY, se]
theorem HG (a : Fin Pp) : em1 (-a) = -em1 a := by unfold em1; rw [Vv, vd]
theorem Ej (a : Fin Pp) : conj12 (em1 a) = em1 a := uK _
theorem V6 : em1 4 * em2 xi = em2 bQ := by decide +kernel
theorem V4 : wG * wG * (wG * wG) * (wG * wG) = em2 xi := by decide +kernel
theorem Ba {a b : F2} (h : em2 a = em2 b) : a = b := congrArg (fun z : K12 => z.1.1) h
theorem Rf {a b : Fin Pp} (h : em1 a = em1 b) : a = b := congrArg (fun z : F2 => z.1) (Ba h)
theorem MW : wG ≠ 0 := by decide +kernel
def tX (p : Fin Pp) : K12 := em1 p * (wG * wG)
def tY (q : Fin Pp) : K12 := em1 q * (wG * wG * wG)
theorem Rt (a b : K12) : conj12 (a + b : K12) = (conj12 a : K12) + conj12 b := by
 refine ext12 rfl ?_
 show tW (sR a.2 b.2) = sR (tW a.2) (tW b.2)
 show (-((a.2 : G6) + (b.2 : G6)) : G6) = -(a.2 : G6) + -(b.2 : G6)
 grobner
theorem Pn (a : K12) : conj12 (-a : K12) = -(conj12 a : K12) := rfl
theorem yE (a b : K12) : conj12 (a - b : K12) = (conj12 a : K12) - conj12 b := by
 have e : a - b = a + -b := by grobner
 rw [e, Rt, Pn]; grobner
theorem LF (p : Fin Pp) : conj12 (tX p) = tX p := by
 unfold tX; rw [qq, qq, Ej, It]; grobner
theorem OM (q : Fin Pp) : conj12 (tY q) = -tY q := by
 unfold tY; rw [qq, qq, qq, Ej, It]; grobner
theorem Jd (q : Fin Pp) : tY (-q) = -tY q := by
 unfold tY; rw [HG]; grobner
theorem tXY {p q : Fin Pp} (h : q * q = p * p * p + 4) : tY q * tY q = tX p * tX p * tX p + em2 bQ := by
 have e : tY q * tY q = em1 (q * q) * (wG * wG * (wG * wG) * (wG * wG)) := by unfold tY; rw [uz]; clear h; grobner
 have e2 : tX p * tX p * tX p = em1 (p * p * p) * (wG * wG * (wG * wG) * (wG * wG)) := by unfold tX; rw [uz, uz]; clear h e; grobner
 rw [e, e2, h, BO, V4, ← V6]
 clear h e e2; grobner
theorem SB : (2 : K12) ≠ 0 := by decide +kernel
theorem Wk {q : Fin Pp} (h : q ≠ 0) : tY q ≠ 0 := by
 have h1 : em1 q ≠ 0 := fun e => h (Rf (e.trans rfl))
 exact neK h1 (neK (neK MW MW) MW)
def lnK (l x y : F2) (p q : Fin Pp) : K12 := tY q - em2 y - em2 l * (tX p - em2 x)
theorem z3 (l x y : F2) (p q : Fin Pp) : conj12 (lnK l x y p q) = lnK l x y p (-q) := by
 unfold lnK
 rw [yE, yE, qq, yE, OM, LF, uK, uK, uK, Jd]
theorem tT (l x y : F2) (p : Fin Pp) {q : Fin Pp} (h : q ≠ 0) : lnK l x y p q ≠ 0 := fun e => by
 have h1 := z3 l x y p q
 have e0 : conj12 (0 : K12) = 0 := by decide +kernel
 rw [e, e0] at h1
 have h2 : 2 * tY q = 0 := by
  have : 2 * tY q = lnK l x y p q - lnK l x y p (-q) := by
   unfold lnK
   rw [Jd]
   generalize tY q = a
   generalize em2 y = b
   generalize em2 l = c
   generalize tX p - em2 x = d
   clear e h1; grobner
  rw [this, e, ← h1]; clear this e h1; grobner
 rcases zr h2 with h3 | h3
 ·exact SB h3
 ·exact Wk h h3
end Go.Ev
set_option linter.unusedVariables false
set_option linter.unusedSimpArgs false
namespace Go.Ev
theorem yT {f : K12} (hf : f ≠ 0) : (conj12 f : K12) ≠ 0 := fun e => by
 have h := v7 f
 rw [e] at h
 exact hf (h.symm.trans (by decide +kernel))
theorem Qi {f : K12} (hf : f ≠ 0) : conj12 (inv12 f) = inv12 (conj12 f) := by
 have h := AG hf
 have h2 : (conj12 f : K12) * conj12 (inv12 f) = 1 := by rw [← qq, h]; exact q9
 exact (If h2).symm
theorem O1 {f : K12} (hf : f ≠ 0) : fn1 (conj12 f) = conj12 (fn1 f) := by
 unfold fn1
 rw [qq, Qi hf]
theorem Je {f : K12} (hf : f ≠ 0) : fn2 (conj12 f) = conj12 (fn2 f) := by
 unfold fn2
 rw [O1 hf, rS, rS, qq]
theorem uJ {f : K12} (hf : f ≠ 0) : finK (conj12 f) = conj12 (finK f) := by
 have hg : fng (conj12 f) = conj12 (fng f) := by unfold fng; rw [Je hf, uH, uH]
 have hh : fnh (conj12 f) = conj12 (fnh f) := by unfold fnh; rw [hg, ← uH, qq, rS]
 unfold finK
 rw [hh, Je hf, ← uH, ← uH, rS, rS, qq, qq, qq]
theorem yU {f : K12} (hf : f ≠ 0) : finK f * (conj12 (finK f) : K12) = 1 := by
 have hc := yT hf
 rw [← uJ hf, ← sF hf hc]
 refine wM (neK hf hc) ?_
 rw [qq, v7]
 grobner
theorem Va : conj12 (-1 : K12) = -1 := by decide +kernel
theorem JJ : (-1 : K12) ≠ 0 := by decide +kernel
theorem CH {f : K12} (hf : f ≠ 0) : finK (-f) = finK f := by
 have e : -f = -1 * f := by clear hf; grobner
 rw [e, sF JJ hf, wM JJ Va]; clear hf e; grobner
def mnK (k p q : Fin Pp) (x y : F2) : K12 := em2 y - em1 k * wG * em2 x - (tY q - em1 k * wG * tX p)
theorem tYX (k p q : Fin Pp) : tY q - em1 k * wG * tX p = tY (q - k * p) := by
 have e : q - k * p = q + -(k * p) := by grobner
 rw [e]
 unfold tY tX
 rw [BO, HG, uz]; clear e; grobner
theorem E7 (k p q : Fin Pp) (x y : F2) : conj12 (mnK k p q x y) = em2 y + em1 k * wG * em2 x + (tY q - em1 k * wG * tX p) := by
 unfold mnK
 rw [tYX, yE, yE, qq, qq, uK, uK, Ej, It, OM]; grobner
theorem Og (k p q : Fin Pp) (x : F2) (y : G2) : mnK k p q x (-y) = -(conj12 (mnK k p q x y) : K12) := by
 rw [E7]
 unfold mnK
 rw [vd]; grobner
theorem xI (k p q : Fin Pp) (x : F2) {y : G2} (h : y ≠ 0) : mnK k p q x y ≠ 0 := fun e => by
 have h1 := E7 k p q x y
 have e0 : conj12 (0 : K12) = 0 := by decide +kernel
 rw [e, e0] at h1
 have h2 : 2 * em2 y = 0 := by
  have : 2 * em2 y = mnK k p q x y + (em2 y + em1 k * wG * em2 x + (tY q - em1 k * wG * tX p)) := by
   unfold mnK; clear e h1; grobner
  rw [this, e, ← h1]; clear this e h1; grobner
 rcases zr h2 with h3 | h3
 ·exact SB h3
 ·exact h (Ba (h3.trans Np.symm))
theorem Aw (a b : G2) : em2 (a - b) = em2 a - em2 b := by
 have e : a - b = a + -b := by grobner
 rw [e, se, vd]; grobner
theorem Mt (a b : Fin Pp) : em1 (a - b) = em1 a - em1 b := by
 have e : a - b = a + -b := by grobner
 rw [e, BO, HG]; grobner
theorem W1 : em1 2 = 2 := by decide +kernel
theorem Sp : em1 3 = 3 := by decide +kernel
theorem Xx : em2 (2 : G2) = 2 := by decide +kernel
theorem Sx : em2 (3 : G2) = 3 := by decide +kernel
theorem RP (a b : Fin Pp) : tX (a + b) = tX a + tX b := by unfold tX; rw [BO]; grobner
theorem YC (a b : Fin Pp) : tY (a + b) = tY a + tY b := by unfold tY; rw [BO]; grobner
theorem Yo (k u : Fin Pp) : tY (k * u) = em1 k * wG * tX u := by unfold tX tY; rw [uz]; grobner
theorem Nq {p q k u' s' : Fin Pp} (hM : LnE p q k u' s') : tX u' + tX s' = (em1 k * wG) * (em1 k * wG) - 3 * tX p := by
 have h := congrArg tX hM.sum
 rw [RP] at h
 rw [h]
 unfold tX
 rw [Mt, uz, uz, Sp]; clear h; grobner
theorem Sa {p q k u' s' : Fin Pp} (hM : LnE p q k u' s') : tX u' * tX s' = 3 * tX p * tX p - 2 * tY q * (em1 k * wG) := by
 have h := congrArg em1 hM.prod
 rw [uz, Mt, uz, uz, uz, uz, Sp, W1] at h
 unfold tX tY
 have e : em1 u' * (wG * wG) * (em1 s' * (wG * wG)) = (em1 u' * em1 s') * (wG * wG * (wG * wG)) := by clear h; grobner
 rw [e, h]; clear h e; grobner
theorem FA {x y l u s : G2} (hL : LnEq x y l u s) : em2 u + em2 s = em2 l * em2 l - 3 * em2 x := by
 have h := congrArg em2 hL.sum
 rw [se, Aw, qQ, qQ, Sx] at h
 exact h
theorem Iw {x y l u s : G2} (hL : LnEq x y l u s) : em2 u * em2 s = 3 * em2 x * em2 x - 2 * em2 y * em2 l := by
 have h := congrArg em2 hL.prod
 rw [qQ, Aw, qQ, qQ, qQ, qQ, Sx, Xx] at h
 exact h
theorem Ss (l x y : F2) (k p q u' : Fin Pp) : lnK l x y (p + u') (q + k * u') = (em1 k * wG - em2 l) * (tX p + tX u') + ((tY q - em1 k * wG * tX p) - (em2 y - em2 l * em2 x)) := by
 unfold lnK
 rw [RP, YC, Yo]; grobner
theorem V7 (l x y : F2) (k p q : Fin Pp) : lnK l x y p q = (em1 k * wG - em2 l) * tX p + ((tY q - em1 k * wG * tX p) - (em2 y - em2 l * em2 x)) := by
 unfold lnK; grobner
theorem RW (l x y u : G2) (k p q : Fin Pp) : mnK k p q (x + u) (y + l * u) = (em2 l - em1 k * wG) * (em2 x + em2 u) + ((em2 y - em2 l * em2 x) - (tY q - em1 k * wG * tX p)) := by
 unfold mnK
 rw [se, se, qQ]; grobner
theorem XK (l x y : G2) (k p q : Fin Pp) : mnK k p q x y = (em2 l - em1 k * wG) * em2 x + ((em2 y - em2 l * em2 x) - (tY q - em1 k * wG * tX p)) := by
 unfold mnK; grobner
theorem aas {x y l u s : G2} {p q k u' s' : Fin Pp} (hA : y * y = x * x * x + bQ) (hL : LnEq x y l u s) (hP : q * q = p * p * p + 4) (hM : LnE p q k u' s') :
  lnK l x y (p + u') (q + k * u') * lnK l x y p q * lnK l x y (p + s') (q + k * s') = -(mnK k p q (x + u) (y + l * u) * mnK k p q x y * mnK k p q (x + s) (y + l * s)) := by
 have hB := tXY hP
 have hA' : em2 y * em2 y = em2 x * em2 x * em2 x + em2 bQ := by rw [← qQ, hA, se, qQ, qQ]
 rw [Ss, Ss, RW, RW, V7 l x y k p q, XK l x y k p q]
 exact rcp (RK (Nq hM)) (RU (Nq hM) (Sa hM)) (R8 hB (Nq hM) (Sa hM)) (RK (FA hL)) (RU (FA hL) (Iw hL)) (R8 hA' (FA hL) (Iw hL))
theorem O0 {a b c d e f c' f' : K12} (h : a * b * c = d * e * f) (hc : c * c' = 1) (hf : f * f' = 1) : a * b * f' = d * e * c' := by
 have e1 : a * b * f' = (a * b * c) * f' * c' + a * b * f' * (1 - c * c') := by clear h hc hf; grobner
 have e2 : d * e * f * f' * c' = d * e * c' * (f * f') := by clear h hc hf e1; grobner
 rw [e1, hc, h, e2, hf]; clear h hc hf e1 e2; grobner
theorem aax {x y l u s : G2} {p q k u' s' : Fin Pp} (hA : y * y = x * x * x + bQ) (hL : LnEq x y l u s) (hP : q * q = p * p * p + 4) (hM : LnE p q k u' s') :
  finK (lnK l x y (p + u') (q + k * u')) * finK (lnK l x y p q) * finK (mnK k p q (x + s) (-(y + l * s))) = finK (mnK k p q (x + u) (y + l * u)) * finK (mnK k p q x y) * finK (lnK l x y (p + s') (-(q + k * s'))) := by
 have hM' : LnE p q k s' u' := ⟨by have := hM.sum; clear hA hL hP hM; grobner, by have := hM.prod; clear hA hL hP hM; grobner⟩
 have hL' : LnEq x y l s u := ⟨by have := hL.sum; clear hA hL hP hM hM'; grobner, by have := hL.prod; clear hA hL hP hM hM'; grobner⟩
 have q1 := s6 _ _ (hM'.third hP)
 have q2 := s6 _ _ hP
 have q3 := s6 _ _ (hM.third hP)
 have y1 := tf _ _ (hL'.third hA)
 have y2 := tf _ _ hA
 have y3 := tf _ _ (hL.third hA)
 have l1 := tT l x y (p + u') q1
 have l2 := tT l x y p q2
 have l3 := tT l x y (p + s') q3
 have m1 := xI k p q (x + u) y1
 have m2 := xI k p q x y2
 have m3 := xI k p q (x + s) y3
 have h := congrArg finK (aas hA hL hP hM)
 rw [CH (neK (neK m1 m2) m3), sF (neK l1 l2) l3, sF l1 l2, sF (neK m1 m2) m3, sF m1 m2] at h
 rw [Og, ← z3, CH (yT m3), uJ m3, uJ l3]
 exact O0 h (yU l3) (yU m3)
end Go.Ev
set_option linter.unusedVariables false
set_option linter.unusedSimpArgs false
namespace Go.Ev
theorem Ye {x y l u : G2} (h : u ≠ 0) : tP (x + u) (y + l * u) x y = l := by
 have hd : x - (x + u) ≠ 0 := fun e => h (by clear h; grobner)
 have hne : ¬ x + u = x := fun e => h (by clear h hd; grobner)
 have hi := wk hd
 unfold tP
 rw [if_neg hne]
 generalize ivEq (x - (x + u)) = i at hi
 refine rV hd ?_
 have e : (x - (x + u)) * ((y - (y + l * u)) * i) = (y - (y + l * u)) * ((x - (x + u)) * i) := by clear hi h hd hne; grobner
 rw [e, hi]; clear hi h hd hne e; grobner
theorem Ya {x y l s : G2} (hc : y * y = x * x * x + bQ) (hL : LnEq x y l 0 s) : tP x y x y = l := by
 have h2 := xA hc
 have hi := wk h2
 have hp := hL.prod
 unfold tP
 rw [if_pos rfl]
 generalize ivEq (2 * y) = i at hi
 refine rV h2 ?_
 have e : 2 * y * (3 * x * x * i) = 3 * x * x * (2 * y * i) := by clear hi h2 hc hL hp; grobner
 rw [e, hi]; clear hi h2 hc hL e; grobner
theorem slq {x y l u s : G2} (hc : y * y = x * x * x + bQ) (hL : LnEq x y l u s) : tP (x + u) (y + l * u) x y = l := by
 by_cases h : u = 0
 ·subst h
  have e1 : x + 0 = x := by clear hL; grobner
  have e2 : y + l * 0 = y := by clear hL; grobner
  rw [e1, e2]
  exact Ya hc hL
 ·exact Ye h
def cK (p q : Fin Pp) : qn -> qn -> K12
 | some a, some b => if a.1 = b.1 /\ a.2 + b.2 = 0 then 1 else finK (lnK (tP a.1 a.2 b.1 b.2) b.1 b.2 p q)
 | _, _ => 1
theorem sY {p q : Fin Pp} {x1 y1 x y : G2} (h : x1 = x /\ y1 + y = 0) : cK p q (some (x1, y1)) (some (x, y)) = 1 := by
 show (if x1 = x /\ y1 + y = 0 then (1 : K12) else _) = 1
 rw [if_pos h]
theorem u6 {p q : Fin Pp} {x y l u s : G2} (hc : y * y = x * x * x + bQ) (hL : LnEq x y l u s) (hn : ¬ (x + u = x /\ (y + l * u) + y = 0)) : cK p q (some (x + u, y + l * u)) (some (x, y)) = finK (lnK l x y p q) := by
 show (if x + u = x /\ (y + l * u) + y = 0 then (1 : K12) else finK (lnK (tP (x + u) (y + l * u) x y) x y p q)) = _
 rw [if_neg hn, slq hc hL]
theorem Ux (l x y u : G2) (p q : Fin Pp) : lnK l (x + u) (y + l * u) p q = lnK l x y p q := by
 unfold lnK
 rw [se, se, qQ]; grobner
theorem ut (p q : Fin Pp) (a : qn) : cK p q none a = 1 := by cases a <;> rfl
theorem uv (p q : Fin Pp) (a : qn) : cK p q a none = 1 := by cases a <;> rfl
theorem Ir {p q : Fin Pp} {a b : qn} (ha : onE1q a) (hb : onE1q b) : cK p q a b = cK p q b a := by
 match a, b, ha, hb with
 | none, b, _, _ => rw [ut, uv]
 | some a, none, _, _ => rw [ut, uv]
 | some (x1, y1), some (x, y), ha, hb =>
  by_cases hn : x1 = x /\ y1 + y = 0
  ·rw [sY hn, sY ⟨hn.1.symm, by rw [← hn.2]; clear hn ha hb; grobner⟩]
  ·obtain ⟨l, u, s, e1, e2, hL, e⟩ := rp ha hb hn
   subst e1 e2
   have ha : (y + l * u) * (y + l * u) = (x + u) * (x + u) * (x + u) + bQ := ha
   have hb : y * y = x * x * x + bQ := hb
   rw [u6 hb hL hn]
   have hM : LnEq (x + u) (y + l * u) l (-u) (s - u) := ⟨by have := hL.sum; clear ha hb hn e hL; grobner, by have h1 := hL.sum; have h2 := hL.prod; clear ha hb hn e hL; grobner⟩
   have ex : x + u + -u = x := by clear ha hb hn e hL hM; grobner
   have ey : y + l * u + l * -u = y := by clear ha hb hn e hL hM ex; grobner
   have h := u6 (p := p) (q := q) ha hM (by rw [ex, ey]; exact fun hc => hn ⟨hc.1.symm, by rw [← hc.2]; clear hc ha hb hn e hL hM ex ey; grobner⟩)
   rw [ex, ey] at h
   rw [h, Ux]
theorem M6 {p : Fin Pp} (hp : p ≠ 0) (x : F2) : tX p - em2 x ≠ 0 := fun e => by
 have e1 : tX p = em2 x := by clear hp; grobner
 have e2 : tX p = em6 (shf6 (up6 (up2 p))) := by
  have hw : wG * wG = em6 v6 := by decide +kernel
  have h := Oy (up6 (up2 p)) v6
  rw [show ((up6 (up2 p) : G6) * (v6 : G6) : G6) = shf6 (up6 (up2 p)) from (Eo _).symm] at h
  unfold tX em1
  rw [hw, uL, h]
 rw [e2] at e1
 exact hp (congrArg (fun z : K12 => z.1.2.1.1) e1)
theorem SQ (p : Fin Pp) (x : F2) : conj12 (tX p - em2 x) = tX p - em2 x := by rw [yE, LF, uK]
theorem NF {p : Fin Pp} (hp : p ≠ 0) (x : F2) : finK (tX p - em2 x) = 1 := wM (M6 hp x) (SQ p x)
theorem Wd {tx ty x y b : K12} (hB : ty * ty = tx * tx * tx + b) (hA : y * y = x * x * x + b) : (ty - y) * (ty - y) + 2 * y * (ty - y) = (tx - x) * (tx - x) * (tx - x) + 3 * x * (tx - x) * (tx - x) + 3 * x * x * (tx - x) := by
 have e : (ty - y) * (ty - y) + 2 * y * (ty - y) = ty * ty - y * y := by clear hB hA; grobner
 rw [e, hB, hA]; clear hB hA e; grobner
theorem Zd (ty y m v k l tx x : K12) : ty - (y + m * v) - (k + m - l) * (tx - (x + v)) = ty - y - m * v - (k + m - l) * (tx - x - v) := by grobner
theorem Zc {ty y m t k l u tx x : K12} (hD : y + l * u = -(y + m * t) + k * (u - t)) : ty - -(y + m * t) - k * (tx - (x + t)) = ty - y - l * u - k * (tx - x - u) := by
 have e : -(y + m * t) = y + l * u - k * (u - t) := by rw [hD]; clear hD; grobner
 rw [e]; clear hD e; grobner
theorem RG (a b c : K12) : a - (b + c) = a - b - c := by grobner
theorem Wg {p q : Fin Pp} {x y l u s m v t k3 k4 : G2} (hP : q * q = p * p * p + 4) (hc : y * y = x * x * x + bQ) (L1 : LnEq x y l u s) (L2 : LnEq x y m v t) (g2 : y + l * u = -(y + m * t) + k4 * (u - t)) (F1 : k3 + l = k4 + m) (F2 : (l - m) * (k4 + m) = u - v) :
  lnK l x y p q * lnK k3 (x + v) (y + m * v) p q * (tX p - em2 (x + t)) = lnK m x y p q * lnK k4 (x + t) (-(y + m * t)) p q * (tX p - em2 (x + s)) := by
 have hk : k3 = k4 + m - l := by clear hP hc L1 L2 g2 F2; grobner
 subst hk
 have hB := tXY hP
 have hA : em2 y * em2 y = em2 x * em2 x * em2 x + em2 bQ := by rw [← qQ, hc, se, qQ, qQ]
 have hD := congrArg em2 g2
 rw [se, se, vd, se, qQ, qQ, qQ, Aw] at hD
 have hF := congrArg em2 F2
 rw [qQ, Aw, se, Aw] at hF
 have h := WM (X := tX p - em2 x) (h := tY q - em2 y) (FA L1) (FA L2) (Iw L2) (Iw L1) hD hF (Wd hB hA)
 have e1 : lnK l x y p q = tY q - em2 y - em2 l * (tX p - em2 x) := rfl
 have e2 : lnK m x y p q = tY q - em2 y - em2 m * (tX p - em2 x) := rfl
 have e3 : lnK (k4 + m - l) (x + v) (y + m * v) p q = tY q - em2 y - em2 m * em2 v - (em2 k4 + em2 m - em2 l) * (tX p - em2 x - em2 v) := by
  unfold lnK
  rw [Aw, se, se, se, qQ]
  exact Zd _ _ _ _ _ _ _ _
 have e4 : lnK k4 (x + t) (-(y + m * t)) p q = tY q - em2 y - em2 l * em2 u - em2 k4 * (tX p - em2 x - em2 u) := by
  unfold lnK
  rw [vd, se, se, qQ]
  exact Zc hD
 rw [e1, e2, e3, e4, se, se, RG, RG]
 exact h
theorem O8 {p q : Fin Pp} {x y l u s m v t k3 k4 : G2} (hP : q * q = p * p * p + 4) (hp : p ≠ 0) (hc : y * y = x * x * x + bQ) (L1 : LnEq x y l u s) (L2 : LnEq x y m v t) (g2 : y + l * u = -(y + m * t) + k4 * (u - t)) (F1 : k3 + l = k4 + m) (F2 : (l - m) * (k4 + m) = u - v) (hq : q ≠ 0) :
  finK (lnK l x y p q) * finK (lnK k3 (x + v) (y + m * v) p q) = finK (lnK m x y p q) * finK (lnK k4 (x + t) (-(y + m * t)) p q) := by
 have h := congrArg finK (Wg hP hc L1 L2 g2 F1 F2)
 have a1 := tT l x y p hq
 have a2 := tT k3 (x + v) (y + m * v) p hq
 have a3 := tT m x y p hq
 have a4 := tT k4 (x + t) (-(y + m * t)) p hq
 rw [sF (neK a1 a2) (M6 hp _), sF (neK a3 a4) (M6 hp _), sF a1 a2, sF a3 a4, NF hp, NF hp, wZ, wZ] at h
 exact h
theorem Pb {p q : Fin Pp} (hP : q * q = p * p * p + 4) (hp : p ≠ 0) {x1 y1 x y x2 y2 : G2} (h1 : y1 * y1 = x1 * x1 * x1 + bQ) (h : y * y = x * x * x + bQ) (h2 : y2 * y2 = x2 * x2 * x2 + bQ)
  (n1 : ¬ (x1 = x /\ y1 + y = 0)) (n2 : ¬ (x2 = x /\ y2 + y = 0)) :
  cK p q (some (x1, y1)) (some (x, y)) * cK p q (adE1q (some (x1, y1)) (some (x, y))) (some (x2, y2)) = cK p q (some (x2, y2)) (some (x, y)) * cK p q (some (x1, y1)) (adE1q (some (x2, y2)) (some (x, y))) := by
 obtain ⟨l, u, s, e1, e2, hL, eS⟩ := rp h1 h n1
 obtain ⟨m, v, t, e3, e4, hM, eT⟩ := rp h2 h n2
 subst e1 e2 e3 e4
 have cAG := u6 (p := p) (q := q) h hL n1
 have cBG := u6 (p := p) (q := q) h hM n2
 have L1 := hL
 have L2 := hM
 rw [eS, eT, cAG, cBG]
 have hS := Bp (hL.third h)
 have hT := Bp (hM.third h)
 obtain ⟨a1, a2⟩ := hL
 obtain ⟨b1, b2⟩ := hM
 have h2y := xA h
 have hR := JK a2 b2
 by_cases n3 : x + s = x + v /\ -(y + l * s) + (y + m * v) = 0
 ·rw [sY n3]
  obtain ⟨p1, p2⟩ := n3
  have hs := D8 p1
  subst hs
  have hml : l = m := by
   rcases rR (Mp p2) with e | e
   ·exact Ea e
   ·subst e
    exact rV h2y (LG (v := 0) hR)
  subst hml
  have hu := M3 a1 b1
  subst hu
  rw [sY ⟨rfl, JL⟩]
 ·by_cases n4 : x + u = x + t /\ (y + l * u) + -(y + m * t) = 0
  ·exfalso
   obtain ⟨p1, p2⟩ := n4
   have hu := D8 p1
   subst hu
   have hml : l = m := by
    rcases rR (NG p2) with e | e
    ·exact Ea e
    ·subst e
     exact rV h2y (M0 hR)
   subst hml
   have hs := MY a1 b1
   subst hs
   exact n3 ⟨rfl, JE⟩
  ·obtain ⟨k3, u3, s3, f1, f2, L3, eL⟩ := rp (x1 := x + s) (y1 := -(y + l * s)) (x := x + v) (y := y + m * v) hS h2 n3
   obtain ⟨k4, u4, s4, g1, g2, L4, eR⟩ := rp (x1 := x + u) (y1 := y + l * u) (x := x + t) (y := -(y + m * t)) h1 hT n4
   have cSB := u6 (p := p) (q := q) h2 L3 (by rw [← f1, ← f2]; exact n3)
   have cAT := u6 (p := p) (q := q) hT L4 (by rw [← g1, ← g2]; exact n4)
   rw [← f1, ← f2] at cSB
   rw [← g1, ← g2] at cAT
   rw [cSB, cAT]
   obtain ⟨c1, c2⟩ := L3
   obtain ⟨d1, d2⟩ := L4
   have hu3 := Bf f1
   have hu4 := Bf g1
   subst hu3 hu4
   have key : k3 + l = k4 + m /\ (l - m) * (k4 + m) = u - v := by
    by_cases ha : s - v = 0
    ·have hs := uw ha
     subst hs
     have hyy := yi hS h2 (fun e => n3 ⟨rfl, e⟩)
     by_cases hd : u - t = 0
     ·exfalso
      have hu := uw hd
      subst hu
      rcases rR (I3 a1 b1) with e | e
      ·have := uw e
       subst this
       exact xA h2 (I7 hyy)
      ·exact h2y (JN hyy e)
     ·have hw := I0 a1 b1
      have hl0 : l - m ≠ 0 := fun e => hd (by rw [← hw]; exact Br e)
      have hs0 : s ≠ 0 := fun e => by subst e; exact h2y (IG hyy)
      have F2 := rV hd (Ee a1 b1 hR (yI g2))
      have F3 := rV hs0 (IV a1 a2 c2 hyy)
      exact ⟨rV hl0 (by rw [F3, F2]), F2⟩
    ·by_cases hd : u - t = 0
     ·have hu := uw hd
      subst hu
      have hyy2 := yi h1 hT (fun e => n4 ⟨rfl, e⟩)
      have hw := Jl a1 b1
      have hl0 : l - m ≠ 0 := fun e => ha (by rw [← hw]; exact Br e)
      have hu0 : u ≠ 0 := fun e => by subst e; exact h2y (Jn hyy2)
      have F3 := rV ha (MD a1 b1 hR (Bd f2))
      have F2 := rV hu0 (Jb b1 b2 d2 hyy2)
      exact ⟨rV hl0 (by rw [F3, F2]), F2⟩
     ·exact ⟨rV hd (rV ha (L8 a1 b1 hR (Bd f2) (yI g2))), rV hd (Ee a1 b1 hR (yI g2))⟩
   exact O8 hP hp h L1 L2 g2 key.1 key.2 (s6 _ _ hP)
theorem Ug {m x y : G2} {p q : Fin Pp} : lnK (-m) x (-y) p q = -(conj12 (lnK m x y p q) : K12) := by
 rw [z3]
 unfold lnK
 rw [Jd, vd, vd]; grobner
theorem Yf {x t : G2} (h : x + t = x) : t = 0 := by grobner
theorem YO {y m : G2} (h : -y + -m * 0 + -y = 0) : 2 * y = 0 := by grobner
theorem WR {y m t : G2} : -y + -m * t = -(y + m * t) := by grobner
theorem Jw {p q : Fin Pp} (hq : q ≠ 0) {a g : qn} (ha : onE1q a) (hg : onE1q g) : cK p q a g * cK p q (adE1q a g) (AE g) = 1 := by
 match a, g, ha, hg with
 | none, none, _, _ => exact wZ 1
 | none, some (x, y), _, _ =>
  rw [ut]
  show (1 : K12) * cK p q (some (x, y)) (some (x, -y)) = 1
  rw [sY ⟨rfl, by grobner⟩]; exact wZ 1
 | some a, none, _, _ => rw [uv]; show (1 : K12) * cK p q (some a) none = 1; rw [uv]; exact wZ 1
 | some (x1, y1), some (x, y), ha, hg =>
  by_cases hn : x1 = x /\ y1 + y = 0
  ·rw [sY hn, rk hn, ut]; exact wZ 1
  ·obtain ⟨l, u, s, e1, e2, hL, e⟩ := rp ha hg hn
   subst e1 e2
   have hg : y * y = x * x * x + bQ := hg
   rw [u6 hg hL hn, e]
   have h2 := xA hg
   have hM : LnEq x (-y) (-l) s u := ⟨by have := hL.sum; clear ha hg hn e hL h2; grobner, by have := hL.prod; clear ha hg hn e hL h2; grobner⟩
   have h := u6 (p := p) (q := q) (x := x) (y := -y) (l := -l) (u := s) (s := u) (by clear hL hM h2 e hn ha; grobner) hM (fun hc => by
    have h0 := Yf hc.1
    rw [h0] at hc
    exact h2 (YO hc.2))
   rw [WR] at h
   show finK (lnK l x y p q) * cK p q (some (x + s, -(y + l * s))) (some (x, -y)) = 1
   have hne := tT l x y p hq
   rw [h, Ug, CH (yT hne), uJ hne]
   exact yU hne
theorem IO {y1 y : G2} (e : y1 + y = 0) : y1 = -y := by grobner
theorem E4 {p q : Fin Pp} (hP : q * q = p * p * p + 4) (hp : p ≠ 0) {a g b : qn} (ha : onE1q a) (hg : onE1q g) (hb : onE1q b) :
  cK p q a g * cK p q (adE1q a g) b = cK p q g b * cK p q a (adE1q g b) := by
 have hq := s6 _ _ hP
 match a, g, b, ha, hg, hb with
 | none, g, b, _, _, _ => rw [ut, ut]; show (1 : K12) * cK p q g b = cK p q g b * 1; rw [wZ]; grobner
 | some a, none, b, _, _, _ => rw [uv, ut]; rfl
 | some a, some g, none, ha, hg, _ => rw [uv, uv]; show _ = (1 : K12) * cK p q (some a) (some g); rw [wZ]; grobner
 | some (x1, y1), some (x, y), some (x2, y2), ha, hg, hb =>
  rw [Ir hg hb, uO hg hb]
  by_cases n1 : x1 = x /\ y1 + y = 0
  ·have e : (some (x1, y1) : qn) = AE (some (x, y)) := by
    obtain ⟨rfl, e⟩ := n1
    show some (x1, y1) = some (x1, -y)
    rw [IO e]
   rw [sY n1, rk n1, ut, e, Ir (Jt hg) (xc hb hg), Jw hq hb hg]
   exact wZ 1
  ·by_cases n2 : x2 = x /\ y2 + y = 0
   ·have e : (some (x2, y2) : qn) = AE (some (x, y)) := by
     obtain ⟨rfl, e⟩ := n2
     show some (x2, y2) = some (x2, -y)
     rw [IO e]
    rw [sY n2, rk n2, uv, e, Jw hq ha hg]
    exact (wZ 1).symm
   ·exact Pb hP hp ha hg hb n1 n2
theorem Ok {p q : Fin Pp} (hP : q * q = p * p * p + 4) (hp : p ≠ 0) {a b c : qn} (ha : onE1q a) (hb : onE1q b) (hc : onE1q c) :
  cK p q a b * cK p q (adE1q a b) c = cK p q a c * cK p q (adE1q a c) b := by
 rw [E4 hP hp ha hb hc, E4 hP hp ha hc hb, Ir hb hc, uO hb hc]
theorem DF {a b c : qn} (ha : onE1q a) (hb : onE1q b) (hc : onE1q c) : adE1q (adE1q a b) c = adE1q (adE1q a c) b := by
 rw [vi ha hb hc, vi ha hc hb, uO hb hc]
theorem Ua {ab cd s1 abc1 x ac bd s2 acb1 : K12} (h1 : abc1 * x = cd * s1) (h2 : acb1 * x = bd * s2) (h3 : ab * abc1 = ac * acb1) : ab * cd * s1 = ac * bd * s2 := by
 have e1 : ab * cd * s1 = ab * (cd * s1) := by clear h1 h2 h3; grobner
 have e2 : ac * bd * s2 = ac * (bd * s2) := by clear h1 h2 h3 e1; grobner
 have e3 : ab * (abc1 * x) = ab * abc1 * x := by clear h1 h2 h3 e1 e2; grobner
 rw [e1, e2, ← h1, ← h2, e3, h3]; clear h1 h2 h3 e1 e2 e3; grobner
theorem J0 {p q : Fin Pp} (hP : q * q = p * p * p + 4) (hp : p ≠ 0) {a b c d : qn} (ha : onE1q a) (hb : onE1q b) (hc : onE1q c) (hd : onE1q d) :
  cK p q a b * cK p q c d * cK p q (adE1q a b) (adE1q c d) = cK p q a c * cK p q b d * cK p q (adE1q a c) (adE1q b d) := by
 have h1 := E4 hP hp (xc ha hb) hc hd
 have h2 := E4 hP hp (xc ha hc) hb hd
 rw [DF ha hc hb] at h2
 exact Ua h1 h2 (Ok hP hp ha hb hc)
end Go.Ev
set_option linter.unusedVariables false
set_option linter.unusedSimpArgs false
namespace Go.Ev
theorem Lh {a b c d : qn} (ha : onE1q a) (hb : onE1q b) (hc : onE1q c) (hd : onE1q d) : adE1q (adE1q a b) (adE1q c d) = adE1q (adE1q a c) (adE1q b d) := by
 rw [← vi (xc ha hb) hc hd, ← vi (xc ha hc) hb hd, DF ha hb hc]
theorem BL {a b : qn} (ha : onE1q a) (hb : onE1q b) : ∀ n, nsEq (adE1q a b) n = adE1q (nsEq a n) (nsEq b n)
 | 0 => rfl
 | n + 1 => by
  show adE1q (nsEq (adE1q a b) n) (adE1q a b) = adE1q (adE1q (nsEq a n) a) (adE1q (nsEq b n) b)
  rw [BL ha hb n, Lh (rh ha n) (rh hb n) ha hb]
def dbS (p q : Fin Pp) (a : qn) (s : K12 × Nat) : K12 × Nat := (s.1 * s.1 * cK p q (nsEq a s.2) (nsEq a s.2), s.2 + s.2)
def ad1S (p q : Fin Pp) (a : qn) (s : K12 × Nat) : K12 × Nat := (s.1 * cK p q (nsEq a s.2) a, s.2 + 1)
def stS (p q : Fin Pp) (a : qn) (s : K12 × Nat) (b : Bool) : K12 × Nat := match b with | true => ad1S p q a (dbS p q a s) | false => dbS p q a s
theorem Sn {f g h x y z u v w : K12} (i : f * g * x = h * u) (k : y * z * v = x * x * w) : f * f * y * (g * g * z) * v = h * h * w * (u * u) := by
 have e1 : f * f * y * (g * g * z) * v = (f * g) * (f * g) * (y * z * v) := by clear i k; grobner
 have e2 : (f * g) * (f * g) * (x * x * w) = (f * g * x) * (f * g * x) * w := by clear i k e1; grobner
 rw [e1, k, e2, i]; clear i k e1 e2; grobner
theorem Sm {f g h x y z u v w t : K12} (i : f * g * x = h * u) (k : y * z * v = x * t * w) : f * y * (g * z) * v = h * w * (u * t) := by
 have e1 : f * y * (g * z) * v = (f * g) * (y * z * v) := by clear i k; grobner
 have e2 : (f * g) * (x * t * w) = (f * g * x) * t * w := by clear i k e1; grobner
 rw [e1, k, e2, i]; clear i k e1 e2; grobner
section
variable {p q : Fin Pp} (hP : q * q = p * p * p + 4) (hp : p ≠ 0) {a b : qn} (ha : onE1q a) (hb : onE1q b)
include hP hp ha hb
def A4 (p q : Fin Pp) (a b : qn) (s t r : K12 × Nat) : Prop := s.2 = r.2 /\ t.2 = r.2 /\ s.1 * t.1 * cK p q (nsEq a r.2) (nsEq b r.2) = r.1 * pwK (cK p q a b) r.2
theorem NR {s t r : K12 × Nat} (h : A4 p q a b s t r) : A4 p q a b (dbS p q a s) (dbS p q b t) (dbS p q (adE1q a b) r) := by
 obtain ⟨h1, h2, h3⟩ := h
 refine ⟨by simp [dbS, h1], by simp [dbS, h2], ?_⟩
 simp only [dbS, h1, h2]
 have ka := rh ha r.2
 have kb := rh hb r.2
 rw [zi, tE ha, tE hb, BL ha hb]
 exact Sn h3 (J0 hP hp ka ka kb kb)
theorem TS {s t r : K12 × Nat} (h : A4 p q a b s t r) : A4 p q a b (ad1S p q a s) (ad1S p q b t) (ad1S p q (adE1q a b) r) := by
 obtain ⟨h1, h2, h3⟩ := h
 refine ⟨by simp [ad1S, h1], by simp [ad1S, h2], ?_⟩
 simp only [ad1S, h1, h2]
 have ka := rh ha r.2
 have kb := rh hb r.2
 rw [xl, BL ha hb]
 exact Sm h3 (J0 hP hp ka ha kb hb)
theorem Ub {s t r : K12 × Nat} (c : Bool) (h : A4 p q a b s t r) : A4 p q a b (stS p q a s c) (stS p q b t c) (stS p q (adE1q a b) r c) := by
 cases c with
 | true => exact TS hP hp ha hb (NR hP hp ha hb h)
 | false => exact NR hP hp ha hb h
theorem Ni : ∀ (l : List Bool) (s t r : K12 × Nat), A4 p q a b s t r -> A4 p q a b (l.foldl (stS p q a) s) (l.foldl (stS p q b) t) (l.foldl (stS p q (adE1q a b)) r)
 | [], _, _, _, h => h
 | c :: l, s, t, r, h => Ni l _ _ _ (Ub hP hp ha hb c h)
end
end Go.Ev
set_option linter.unusedVariables false
set_option linter.unusedSimpArgs false
namespace Go.Ev
def gK (k p q : Fin Pp) : qn -> K12
 | none => 1
 | some a => finK (mnK k p q a.1 a.2)
theorem VC {k p q : Fin Pp} {x y : G2} (h : y * y = x * x * x + bQ) : gK k p q (some (x, y)) * gK k p q (some (x, -y)) = 1 := by
 have hy := tf _ _ h
 have hm := xI k p q x hy
 show finK (mnK k p q x y) * finK (mnK k p q x (-y)) = 1
 rw [Og, CH (yT hm), uJ hm]
 exact yU hm
theorem RS {p q k u' s' : Fin Pp} (hP : q * q = p * p * p + 4) (hM : LnE p q k u' s') {a b : qn} (ha : onE1q a) (hb : onE1q b) :
  cK (p + u') (q + k * u') a b * cK p q a b * gK k p q (adE1q a b) = gK k p q a * gK k p q b * cK (p + s') (-(q + k * s')) a b := by
 match a, b, ha, hb with
 | none, b, _, _ => rw [ut, ut, ut]; show (1 : K12) * 1 * gK k p q b = 1 * gK k p q b * 1; grobner
 | some a, none, _, _ => rw [uv, uv, uv]; show (1 : K12) * 1 * gK k p q (some a) = gK k p q (some a) * 1 * 1; grobner
 | some (x1, y1), some (x, y), ha, hb =>
  have hb : y * y = x * x * x + bQ := hb
  by_cases hn : x1 = x /\ y1 + y = 0
  ·rw [sY hn, sY hn, sY hn, rk hn]
   obtain ⟨rfl, e⟩ := hn
   rw [IO e]
   have h := VC (k := k) (p := p) (q := q) hb
   show (1 : K12) * 1 * 1 = gK k p q (some (x1, -y)) * gK k p q (some (x1, y)) * 1
   generalize gK k p q (some (x1, -y)) = m at *
   generalize gK k p q (some (x1, y)) = n at *
   have e2 : m * n * 1 = n * m := by clear h e; grobner
   rw [e2, h]; clear h e e2; grobner
  ·obtain ⟨l, u, s, e1, e2, hL, e⟩ := rp ha hb hn
   subst e1 e2
   rw [u6 hb hL hn, u6 hb hL hn, u6 hb hL hn, e]
   exact aax hb hL hP hM
section
variable {p q k u' s' : Fin Pp} (hP : q * q = p * p * p + 4) (hM : LnE p q k u' s') {a : qn} (ha : onE1q a)
include hP hM ha
def D9 (k p q : Fin Pp) (a : qn) (s t r : K12 × Nat) : Prop := s.2 = r.2 /\ t.2 = r.2 /\ s.1 * t.1 * gK k p q (nsEq a r.2) = r.1 * pwK (gK k p q a) r.2
theorem Nx {s t r : K12 × Nat} (h : D9 k p q a s t r) : D9 k p q a (dbS (p + u') (q + k * u') a s) (dbS p q a t) (dbS (p + s') (-(q + k * s')) a r) := by
 obtain ⟨h1, h2, h3⟩ := h
 refine ⟨by simp [dbS, h1], by simp [dbS, h2], ?_⟩
 simp only [dbS, h1, h2]
 have ka := rh ha r.2
 rw [zi, tE ha]
 exact Sn h3 (RS hP hM ka ka)
theorem Vb {s t r : K12 × Nat} (h : D9 k p q a s t r) : D9 k p q a (ad1S (p + u') (q + k * u') a s) (ad1S p q a t) (ad1S (p + s') (-(q + k * s')) a r) := by
 obtain ⟨h1, h2, h3⟩ := h
 refine ⟨by simp [ad1S, h1], by simp [ad1S, h2], ?_⟩
 simp only [ad1S, h1, h2]
 have ka := rh ha r.2
 rw [xl]
 exact Sm h3 (RS hP hM ka ha)
theorem UA {s t r : K12 × Nat} (c : Bool) (h : D9 k p q a s t r) : D9 k p q a (stS (p + u') (q + k * u') a s c) (stS p q a t c) (stS (p + s') (-(q + k * s')) a r c) := by
 cases c with
 | true => exact Vb hP hM ha (Nx hP hM ha h)
 | false => exact Nx hP hM ha h
theorem Mk : ∀ (l : List Bool) (s t r : K12 × Nat), D9 k p q a s t r -> D9 k p q a (l.foldl (stS (p + u') (q + k * u') a) s) (l.foldl (stS p q a) t) (l.foldl (stS (p + s') (-(q + k * s')) a) r)
 | [], _, _, _, h => h
 | c :: l, s, t, r, h => Mk l _ _ _ (UA hP hM ha c h)
end
end Go.Ev
set_option linter.unusedVariables false
set_option linter.unusedSimpArgs false
namespace Go.Ev
theorem GS (a b : G2) : (conj2 (a * b) : G2) = (conj2 a : G2) * conj2 b := by
 show conj2 (mul2 a b) = mul2 (conj2 a) (conj2 b)
 refine sJ ?_ ?_ <;> simp only [mul2, conj2] <;> grobner
theorem Gg (a b : G2) : (conj2 (a + b) : G2) = (conj2 a : G2) + conj2 b := by
 show conj2 (qR a b) = qR (conj2 a) (conj2 b)
 refine sJ rfl ?_
 show -(a.2 + b.2) = -a.2 + -b.2
 grobner
theorem RE (a : G2) : (conj2 (-a) : G2) = -(conj2 a : G2) := rfl
def gi1 : G2 := inv2 turn1
theorem Nn : (turn1 : G2) * gi1 = 1 := by
 rw [K7]
 exact xB (by decide +kernel)
theorem Gy (t : F2) : mul2 (conj2 (0, 0)) t = (0, 0) := by
 rw [show conj2 (0, 0) = (0, 0) from by decide, rB]; exact ts t
theorem Ap (a : F2) : frobT (em2 a) = em2 (conj2 a) := by
 refine ext12 (vv rfl ?_ ?_) (vv ?_ ?_ ?_)
 ·exact Gy _
 ·exact Gy _
 ·exact Gy _
 ·exact Gy _
 ·exact Gy _
theorem LJ : frobT wG = em2 turn1 * wG := by decide +kernel
theorem Hy (a b : K12) : frobT (a + b : K12) = (frobT a : K12) + frobT b := Nc a b
theorem HF (p : Fin Pp) : frobT (em1 p) = em1 p := by
 unfold em1
 rw [Ap]
 congr 1
 refine sJ rfl ?_
 show -(0 : Fin Pp) = 0
 decide
theorem OT (p : Fin Pp) : frobT (tX p) = em2 turn1 * em2 turn1 * tX p := by
 unfold tX
 rw [qo, qo, HF, LJ]; grobner
theorem On (q : Fin Pp) : frobT (tY q) = em2 turn1 * em2 turn1 * em2 turn1 * tY q := by
 unfold tY
 rw [qo, qo, qo, HF, LJ]; grobner
theorem TQ (a : K12) : frobT (-a : K12) = -(frobT a : K12) := by
 have e : -a = -1 * a := by grobner
 rw [e, qo, LH]; clear e; grobner
theorem Ep (a b : K12) : frobT (a - b : K12) = (frobT a : K12) - frobT b := by
 have e : a - b = a + -b := by grobner
 rw [e, Hy, TQ]; clear e; grobner
def psX (x : G2) : G2 := (conj2 x : G2) * gi1 * gi1
def psY (y : G2) : G2 := -((conj2 y : G2) * gi1 * gi1 * gi1)
def psL (l : G2) : G2 := -((conj2 l : G2) * gi1)
theorem U5 : em2 turn1 * em2 gi1 = 1 := by rw [← qQ, Nn, Zh]
theorem XU {t g ty tx y l x : K12} (h : t * g = 1) : t * t * t * -ty - y - l * (t * t * tx - x) = -(t * t * t) * (ty - -(y * g * g * g) - -(l * g) * (tx - x * g * g)) := by
 have e : -(t * t * t) * (ty - -(y * g * g * g) - -(l * g) * (tx - x * g * g)) = t * t * t * -ty - y * (t * g) * (t * g) * (t * g) - l * (t * g) * (t * t * tx - x * (t * g) * (t * g)) := by clear h; grobner
 rw [e, h]; clear h e; grobner
theorem TV (l x y : G2) (p q : Fin Pp) : frobT (conj12 (lnK l x y p q)) = -(em2 turn1 * em2 turn1 * em2 turn1) * lnK (psL l) (psX x) (psY y) p q := by
 rw [z3]
 unfold lnK psL psX psY
 rw [Ep, Ep, qo, Ep, On, OT, Ap, Ap, Ap, Jd, vd, vd, qQ, qQ, qQ, qQ, qQ, qQ]
 exact XU U5
theorem wD : em2 turn1 ≠ 0 := fun e => by
 have h := U5
 rw [e] at h
 have : (0 : K12) = 1 := by rw [← h]; clear h e; grobner
 exact absurd this (by decide +kernel)
theorem IT : finK (-(em2 turn1 * em2 turn1 * em2 turn1)) = 1 := by
 have h := neK (neK wD wD) wD
 rw [CH h]
 exact wM h (by rw [qq, qq, uK])
theorem J6 {f : K12} (hf : f ≠ 0) : finK (frobT f) = frobT (finK f) := by
 have h1 : frobT (inv12 f) = inv12 (frobT f) := by
  have h := AG hf
  have h2 : (frobT f : K12) * frobT (inv12 f) = 1 := by rw [← qo, h]; exact rK
  exact (If h2).symm
 have a1 : fn1 (frobT f) = frobT (fn1 f) := by unfold fn1; rw [qo, h1, rS]
 have a2 : fn2 (frobT f) = frobT (fn2 f) := by unfold fn2; rw [a1, qo]
 have a3 : fng (frobT f) = frobT (fng f) := by unfold fng; rw [a2, wE, wE]
 have a4 : fnh (frobT f) = frobT (fnh f) := by unfold fnh; rw [a3, qo, rS, wE]
 unfold finK
 rw [a4, a2, qo, qo, qo, rS, wE, wE]
theorem Ui (l x y : G2) (p : Fin Pp) {q : Fin Pp} (hq : q ≠ 0) : finK (lnK (psL l) (psX x) (psY y) p q) = frobT (conj12 (finK (lnK l x y p q))) := by
 have h0 := tT l x y p hq
 have h1 := tT (psL l) (psX x) (psY y) p hq
 have h := congrArg finK (TV l x y p q)
 have ht : -(em2 turn1 * em2 turn1 * em2 turn1) ≠ 0 := fun e => neK (neK wD wD) wD (by
  generalize em2 turn1 * em2 turn1 * em2 turn1 = z at e ⊢
  clear h h0 h1; grobner)
 rw [sF ht h1, IT, J6 (yT h0), uJ h0] at h
 rw [h]; clear h h0 h1 ht; grobner
end Go.Ev
set_option linter.unusedVariables false
set_option linter.unusedSimpArgs false
namespace Go.Ev
def psP : qn -> qn
 | none => none
 | some a => some (psX a.1, psY a.2)
theorem Zp : (conj2 (2 : G2) : G2) = 2 := by decide +kernel
theorem Wo : (conj2 (3 : G2) : G2) = 3 := by decide +kernel
theorem Xh : mul2 bQ (mul2 (mul2 turn1 (mul2 turn1 turn1)) (mul2 turn1 (mul2 turn1 turn1))) = conj2 bQ := by decide +kernel
theorem V3 {b t g : G2} (h : t * g = 1) : b * (t * (t * t) * (t * (t * t))) * (g * g * g * g * g * g) = b := by
 have e : b * (t * (t * t) * (t * (t * t))) * (g * g * g * g * g * g) = b * (t * g) * (t * g) * (t * g) * (t * g) * (t * g) * (t * g) := by clear h; grobner
 rw [e, h]; clear h e; grobner
theorem ZH : (conj2 bQ : G2) * (gi1 * gi1 * gi1 * gi1 * gi1 * gi1) = bQ := by
 rw [← Xh]
 exact V3 Nn
theorem Sr (a b : G2) : (conj2 (a - b) : G2) = (conj2 a : G2) - conj2 b := by
 have e : a - b = a + -b := by grobner
 rw [e, Gg, RE]; clear e; grobner
theorem Cu (a b : G2) : psX (a + b) = psX a + psX b := by unfold psX; rw [Gg]; grobner
theorem EV (y l u : G2) : psY (y + l * u) = psY y + psL l * psX u := by unfold psX psY psL; rw [Gg, GS]; grobner
theorem Od (y : G2) : psY (-y) = -psY y := by unfold psY; rw [RE]; grobner
theorem II {x y : G2} (h : y * y = x * x * x + bQ) : psY y * psY y = psX x * psX x * psX x + bQ := by
 have h1 := congrArg (fun z : G2 => (conj2 z : G2)) h
 simp only [GS, Gg] at h1
 have e : psY y * psY y = (conj2 y : G2) * conj2 y * (gi1 * gi1 * gi1 * gi1 * gi1 * gi1) := by unfold psY; clear h h1; grobner
 have e2 : psX x * psX x * psX x = (conj2 x : G2) * conj2 x * conj2 x * (gi1 * gi1 * gi1 * gi1 * gi1 * gi1) := by unfold psX; clear h h1 e; grobner
 rw [e, e2, h1]
 have hb := ZH
 generalize (gi1 * gi1 * gi1 * gi1 * gi1 * gi1 : G2) = g at *
 have e3 : ((conj2 x : G2) * conj2 x * conj2 x + conj2 bQ) * g = (conj2 x : G2) * conj2 x * conj2 x * g + (conj2 bQ : G2) * g := by clear h h1 e e2 hb; grobner
 rw [e3, hb]
theorem Sb {x y l u s : G2} (h : LnEq x y l u s) : LnEq (psX x) (psY y) (psL l) (psX u) (psX s) := by
 refine ⟨?_, ?_⟩
 ·have h1 := congrArg psX h.sum
  rw [Cu] at h1
  rw [h1]
  unfold psX psL
  rw [Sr, GS, GS, Wo]; clear h h1; grobner
 ·have h1 := congrArg (fun z : G2 => (conj2 z : G2)) h.prod
  simp only [GS, Sr, Wo, Zp] at h1
  have e : psX u * psX s = (conj2 u : G2) * conj2 s * (gi1 * gi1 * gi1 * gi1) := by unfold psX; clear h h1; grobner
  rw [e, h1]
  unfold psX psY psL
  clear h h1 e; grobner
theorem Gq : gi1 ≠ 0 := fun e => by
 have h := Nn
 rw [e] at h
 have : (0 : G2) = 1 := by rw [← h]; clear h e; grobner
 exact absurd this (by decide)
theorem Mx {a b : G2} (h : (conj2 a : G2) = conj2 b) : a = b := by
 have := congrArg (fun z : G2 => (conj2 z : G2)) h
 simp only [yD] at this
 exact this
theorem Rl {a b : G2} (h : psX a = psX b) : a = b := by
 unfold psX at h
 refine Mx (rV (uu Gq Gq) ?_)
 generalize (conj2 a : G2) = c at *
 generalize (conj2 b : G2) = d at *
 generalize gi1 = g at *
 have e1 : g * g * c = c * g * g := by clear h; grobner
 have e2 : g * g * d = d * g * g := by clear h e1; grobner
 rw [e1, e2, h]
theorem NC {a b : G2} (h : psY a + psY b = 0) : a + b = 0 := by
 have h1 : psY (a + b) = 0 := by
  rw [← h]; unfold psY; rw [Gg]; clear h; grobner
 unfold psY at h1
 have h2 : (gi1 * gi1 * gi1) * (conj2 (a + b) : G2) = (gi1 * gi1 * gi1) * (conj2 0 : G2) := by
  rw [show (conj2 (0 : G2) : G2) = 0 from by decide]
  generalize (conj2 (a + b) : G2) = c at *
  generalize gi1 = g at *
  have e : g * g * g * c = -(-(c * g * g * g)) := by clear h h1; grobner
  rw [e, h1]; clear h h1 e; grobner
 exact Mx (rV (uu (uu Gq Gq) Gq) h2)
theorem J7 {x1 y1 x y : G2} (h : ¬ (x1 = x /\ y1 + y = 0)) : ¬ (psX x1 = psX x /\ psY y1 + psY y = 0) := fun hc => h ⟨Rl hc.1, NC hc.2⟩
theorem LM {x1 y1 x y : G2} (h : x1 = x /\ y1 + y = 0) : psX x1 = psX x /\ psY y1 + psY y = 0 := by
 obtain ⟨rfl, e⟩ := h
 rw [IO e, Od]
 exact ⟨rfl, by grobner⟩
theorem UU {a b : qn} (ha : onE1q a) (hb : onE1q b) : psP (adE1q a b) = adE1q (psP a) (psP b) := by
 match a, b, ha, hb with
 | none, b, _, _ => rfl
 | some a, none, _, _ => rfl
 | some (x1, y1), some (x, y), ha, hb =>
  show psP (adE1q (some (x1, y1)) (some (x, y))) = adE1q (some (psX x1, psY y1)) (some (psX x, psY y))
  by_cases hn : x1 = x /\ y1 + y = 0
  ·rw [rk hn, rk (LM hn)]; rfl
  ·have hn' := J7 hn
   obtain ⟨l, u, s, e1, e2, hL, e⟩ := rp ha hb hn
   subst e1 e2
   have ha : (y + l * u) * (y + l * u) = (x + u) * (x + u) * (x + u) + bQ := ha
   have hb : y * y = x * x * x + bQ := hb
   have h1 := II ha
   rw [Cu, EV] at hn' h1
   rw [e, Cu, EV, B8 (II hb) h1 (Sb hL) hn']
   show some (psX (x + s), psY (-(y + l * s))) = _
   rw [Cu, Od, EV]
theorem OS {a : qn} (ha : onE1q a) : ∀ n, psP (nsEq a n) = nsEq (psP a) n
 | 0 => rfl
 | n + 1 => by
  show psP (adE1q (nsEq a n) a) = adE1q (nsEq (psP a) n) (psP a)
  rw [UU (rh ha n) ha, OS ha n]
theorem Dp : frobT (conj12 (1 : K12)) = 1 := by rw [q9, rK]
theorem Uk {p q : Fin Pp} (hq : q ≠ 0) {a b : qn} (ha : onE1q a) (hb : onE1q b) : cK p q (psP a) (psP b) = frobT (conj12 (cK p q a b)) := by
 match a, b, ha, hb with
 | none, b, _, _ => rw [ut, Dp]; exact ut _ _ _
 | some a, none, _, _ => rw [uv, Dp]; exact uv _ _ _
 | some (x1, y1), some (x, y), ha, hb =>
  show cK p q (some (psX x1, psY y1)) (some (psX x, psY y)) = _
  by_cases hn : x1 = x /\ y1 + y = 0
  ·rw [sY hn, sY (LM hn), Dp]
  ·have hn' := J7 hn
   obtain ⟨l, u, s, e1, e2, hL, e⟩ := rp ha hb hn
   subst e1 e2
   have hb : y * y = x * x * x + bQ := hb
   rw [Cu, EV] at hn' ⊢
   rw [u6 hb hL hn, u6 (II hb) (Sb hL) hn']
   exact Ui l x y p hq
end Go.Ev
set_option linter.unusedVariables false
set_option linter.unusedSimpArgs false
namespace Go.Ev
theorem XG {a b c : K12} (h1 : a * b = 1) (h2 : b * c = 1) : a = c := by
 have e : a = a * (b * c) := by rw [h2]; clear h1 h2; grobner
 have e2 : a * (b * c) = a * b * c := by clear e h1 h2; grobner
 rw [e, e2, h1]; clear h1 h2 e e2; grobner
theorem I2 {f : K12} (hf : f ≠ 0) : pwK (finK f) xT = frobT (conj12 (finK f)) := by
 refine XG (Qu hf) ?_
 rw [← qo, yU hf, rK]
theorem Li {p q : Fin Pp} (hq : q ≠ 0) (a b : qn) : cK p q a b = 1 ∨ ∃ f : K12, f ≠ 0 /\ cK p q a b = finK f := by
 match a, b with
 | none, b => exact .inl (ut _ _ _)
 | some a, none => exact .inl (uv _ _ _)
 | some (x1, y1), some (x, y) =>
  by_cases hn : x1 = x /\ y1 + y = 0
  ·exact .inl (sY hn)
  ·refine .inr ⟨_, tT (tP x1 y1 x y) x y p hq, ?_⟩
   show (if x1 = x /\ y1 + y = 0 then (1 : K12) else finK (lnK (tP x1 y1 x y) x y p q)) = _
   rw [if_neg hn]
theorem Uz {p q : Fin Pp} (hq : q ≠ 0) (a b : qn) : pwK (cK p q a b) xT = frobT (conj12 (cK p q a b)) := by
 rcases Li hq a b with e | ⟨f, hf, e⟩
 ·rw [e, vH, Dp]
 ·rw [e]; exact I2 hf
theorem Fb {p q : Fin Pp} (hq : q ≠ 0) (a b : qn) : cK p q a b * (conj12 (cK p q a b) : K12) = 1 := by
 rcases Li hq a b with e | ⟨f, hf, e⟩
 ·rw [e, q9]; exact wZ 1
 ·rw [e]; exact yU hf
theorem Se {x y z u w : K12} (h : x * y * u = z * u) (hu : u * w = 1) : x * y = z := by
 have e1 : x * y = x * y * u * w + x * y * (1 - u * w) := by clear h hu; grobner
 have e2 : z * u * w = z * (u * w) := by clear h hu e1; grobner
 rw [e1, h, e2, hu]; clear h hu e1 e2; grobner
theorem Wa {p q : Fin Pp} (hP : q * q = p * p * p + 4) (hp : p ≠ 0) {a b : qn} (ha : onE1q a) (hb : onE1q b) (ta : nsEq a xT = psP a) (tb : nsEq b xT = psP b) (l : List Bool) (hl : (l.foldl (stS p q (adE1q a b)) (1, 1)).2 = xT) :
  (l.foldl (stS p q a) (1, 1)).1 * (l.foldl (stS p q b) (1, 1)).1 = (l.foldl (stS p q (adE1q a b)) (1, 1)).1 := by
 have hq := s6 _ _ hP
 have h0 : A4 p q a b (1, 1) (1, 1) (1, 1) := ⟨rfl, rfl, by
  have e1 : ∀ c : qn, nsEq c 1 = c := fun c => rfl
  show (1 : K12) * 1 * cK p q (nsEq a 1) (nsEq b 1) = 1 * pwK (cK p q a b) (0 + 1)
  rw [e1, e1, xl, uB]; grobner⟩
 obtain ⟨h1, h2, h3⟩ := Ni hP hp ha hb l _ _ _ h0
 rw [hl, ta, tb, Uk hq ha hb, Uz hq] at h3
 have hu := Fb hq (p := p) a b
 have hu2 : frobT (conj12 (cK p q a b)) * (frobT (cK p q a b) : K12) = 1 := by
  rw [← qo]
  have : (conj12 (cK p q a b) : K12) * cK p q a b = 1 := by rw [← hu]; grobner
  rw [this, rK]
 generalize (frobT (conj12 (cK p q a b)) : K12) = u at *
 generalize (frobT (cK p q a b) : K12) = w at *
 exact Se h3 hu2
end Go.Ev
set_option linter.unusedVariables false
set_option linter.unusedSimpArgs false
namespace Go.Ev
theorem XC {t g y x c ty tx : K12} (h : t * g = 1) : -(t * t * t) * (-(y * g * g * g) - c * (x * g * g) - (ty - c * tx)) = y + c * t * x + (t * t * t * ty - c * t * (t * t * tx)) := by
 have e : -(t * t * t) * (-(y * g * g * g) - c * (x * g * g) - (ty - c * tx)) = y * (t * g) * (t * g) * (t * g) + c * t * x * (t * g) * (t * g) + (t * t * t * ty - c * t * (t * t * tx)) := by clear h; grobner
 rw [e, h]; clear h e; grobner
theorem S7 (k p q : Fin Pp) (x y : G2) : frobT (conj12 (mnK k p q x y)) = -(em2 turn1 * em2 turn1 * em2 turn1) * mnK k p q (psX x) (psY y) := by
 rw [E7]
 unfold mnK psX psY
 rw [Hy, Hy, Ep, qo, qo, qo, qo, HF, LJ, OT, On, Ap, Ap, vd, qQ, qQ, qQ, qQ, qQ]
 rw [XC U5]
 grobner
theorem TW (k p q : Fin Pp) (x : G2) {y : G2} (hy : y ≠ 0) (hy' : psY y ≠ 0) : finK (mnK k p q (psX x) (psY y)) = frobT (conj12 (finK (mnK k p q x y))) := by
 have h0 := xI k p q x hy
 have h1 := xI k p q (psX x) hy'
 have h := congrArg finK (S7 k p q x y)
 have ht : -(em2 turn1 * em2 turn1 * em2 turn1) ≠ 0 := fun e => neK (neK wD wD) wD (by
  generalize em2 turn1 * em2 turn1 * em2 turn1 = z at e ⊢
  clear h h0 h1; grobner)
 rw [sF ht h1, IT, J6 (yT h0), uJ h0] at h
 rw [h]; clear h h0 h1 ht; grobner
theorem Yl (k p q : Fin Pp) {a : qn} (ha : onE1q a) : gK k p q (psP a) = frobT (conj12 (gK k p q a)) := by
 match a, ha with
 | none, _ => exact Dp.symm
 | some (x, y), ha => exact TW k p q x (tf _ _ ha) (tf _ _ (II ha))
theorem Vw (k p q : Fin Pp) {a : qn} (ha : onE1q a) : pwK (gK k p q a) xT = frobT (conj12 (gK k p q a)) := by
 match a, ha with
 | none, _ => show pwK (1 : K12) xT = frobT (conj12 (1 : K12)); rw [vH, Dp]
 | some (x, y), ha => exact I2 (xI k p q x (tf _ _ ha))
theorem Px (k p q : Fin Pp) {a : qn} (ha : onE1q a) : gK k p q a * (conj12 (gK k p q a) : K12) = 1 := by
 match a, ha with
 | none, _ => show (1 : K12) * conj12 (1 : K12) = 1; rw [q9]; exact wZ 1
 | some (x, y), ha => exact yU (xI k p q x (tf _ _ ha))
theorem XR {p q k u' s' : Fin Pp} (hP : q * q = p * p * p + 4) (hM : LnE p q k u' s') {a : qn} (ha : onE1q a) (ta : nsEq a xT = psP a) (l : List Bool) (hl : (l.foldl (stS (p + s') (-(q + k * s')) a) (1, 1)).2 = xT) :
  (l.foldl (stS (p + u') (q + k * u') a) (1, 1)).1 * (l.foldl (stS p q a) (1, 1)).1 = (l.foldl (stS (p + s') (-(q + k * s')) a) (1, 1)).1 := by
 have h0 : D9 k p q a (1, 1) (1, 1) (1, 1) := ⟨rfl, rfl, by
  show (1 : K12) * 1 * gK k p q (nsEq a 1) = 1 * pwK (gK k p q a) (0 + 1)
  have e1 : nsEq a 1 = a := rfl
  rw [e1, xl, uB]; grobner⟩
 obtain ⟨h1, h2, h3⟩ := Mk hP hM ha l _ _ _ h0
 rw [hl, ta, Yl k p q ha, Vw k p q ha] at h3
 have hu := Px k p q ha
 have hu2 : frobT (conj12 (gK k p q a)) * (frobT (gK k p q a) : K12) = 1 := by
  rw [← qo]
  have : (conj12 (gK k p q a) : K12) * gK k p q a = 1 := by rw [← hu]; grobner
  rw [this, rK]
 generalize (frobT (conj12 (gK k p q a)) : K12) = u at *
 generalize (frobT (gK k p q a) : K12) = w at *
 exact Se h3 hu2
end Go.Ev
set_option linter.unusedVariables false
set_option linter.unusedSimpArgs false
namespace Go.Ev
def C2 : Pt2 := man2 sG 15132376222941642752 64
theorem Ud : mul2 C2.1 (mul2 turn1 turn1) = mul2 (conj2 sG.1) (mul2 C2.2.2 C2.2.2) := by decide +kernel
theorem TE : mul2 C2.2.1 (mul2 turn1 (mul2 turn1 turn1)) = uq (mul2 (conj2 sG.2.1) (mul2 C2.2.2 (mul2 C2.2.2 C2.2.2))) := by decide +kernel
theorem SU : C2.2.2 ≠ (0, 0) := by decide +kernel
theorem Qq : mul2 sG.2.1 sG.2.1 = qR (mul2 (mul2 sG.1 sG.1) sG.1) bQ := by decide +kernel
theorem YD {X c z t g : G2} (h : X * (t * t) = c * z) (hg : t * g = 1) : X = c * g * g * z := by
 have e : X = X * (t * g) * (t * g) := by rw [hg]; clear h hg; grobner
 have e2 : X * (t * g) * (t * g) = X * (t * t) * g * g := by clear h hg e; grobner
 rw [e, e2, h]; clear h hg e e2; grobner
theorem XF {Y c z t g : G2} (h : Y * (t * (t * t)) = -(c * z)) (hg : t * g = 1) : Y = -(c * g * g * g) * z := by
 have e : Y = Y * (t * g) * (t * g) * (t * g) := by rw [hg]; clear h hg; grobner
 have e2 : Y * (t * g) * (t * g) * (t * g) = Y * (t * (t * t)) * g * g * g := by clear h hg e; grobner
 rw [e, e2, h]; clear h hg e e2; grobner
theorem WH (a z : G2) : a * (z * (z * z)) = a * (z * z * z) := by grobner
theorem Pj (m : Pt2) (x y : F2) (h1 : mul2 m.1 (mul2 turn1 turn1) = mul2 (conj2 x) (mul2 m.2.2 m.2.2)) (h2 : mul2 m.2.1 (mul2 turn1 (mul2 turn1 turn1)) = uq (mul2 (conj2 y) (mul2 m.2.2 (mul2 m.2.2 m.2.2)))) (h3 : m.2.2 ≠ (0, 0)) : afJq m = some (psX x, psY y) := by
 obtain ⟨X, Y, Z⟩ := m
 have hx : (X : G2) = psX x * ((Z : G2) * Z) := YD h1 Nn
 have hy : (Y : G2) = psY y * ((Z : G2) * Z * Z) := (XF h2 Nn).trans (WH _ _)
 have h := Bj (z := Z) (x := psX x) (y := psY y) h3
 rw [← hx, ← hy] at h
 exact h
theorem Ra : afJq C2 = some (psX sG.1, psY sG.2.1) := Pj C2 sG.1 sG.2.1 Ud TE SU
theorem XB (x : G2) : x * (1 * 1) = x := by grobner
theorem W4 (x : G2) : x * (1 * 1 * 1) = x := by grobner
theorem Q9 : (1 : G2) ≠ 0 := by rw [K7]; decide
theorem xG (x y : G2) : afJq (x, y, one2) = some (x, y) := by
 have h := Bj (z := 1) (x := x) (y := y) Q9
 rw [XB, W4, K7] at h
 exact h
theorem El : afJq sG = some (sG.1, sG.2.1) := xG _ _
theorem Ff : onE1q (afJq sG) := by rw [El]; exact Qq
theorem Vx : nsEq (afJq sG) xT = psP (afJq sG) := by
 rw [← yG sG Ff xT (by decide)]
 exact Ra.trans (congrArg psP El).symm
end Go.Ev
set_option linter.unusedVariables false
set_option linter.unusedSimpArgs false
namespace Go.Ev
theorem RD {a : qn} (ha : onE1q a) (ht : nsEq a xT = psP a) (n : Nat) : nsEq (nsEq a n) xT = psP (nsEq a n) := by
 rw [vg ha, Nat.mul_comm, ← vg ha, ht, OS ha]
def BM : List Bool := (List.range 63).map fun i => Nat.testBit xT (62 - i)
theorem OQ (p q : Fin Pp) (a : qn) : ∀ (l : List Bool) (s : K12 × Nat), (l.foldl (stS p q a) s).2 = l.foldl (fun n b => match b with | true => n + n + 1 | false => n + n) s.2
 | [], _ => rfl
 | c :: l, s => by
  rw [List.foldl_cons, List.foldl_cons, OQ p q a l]
  cases c <;> rfl
theorem RX (p q : Fin Pp) (a : qn) : (BM.foldl (stS p q a) (1, 1)).2 = xT := by
 rw [OQ]
 decide +kernel
def eP (p q : Fin Pp) (a : qn) : K12 := (BM.foldl (stS p q a) (1, 1)).1
theorem XS {p q : Fin Pp} (hP : q * q = p * p * p + 4) (hp : p ≠ 0) {a b : qn} (ha : onE1q a) (hb : onE1q b) (ta : nsEq a xT = psP a) (tb : nsEq b xT = psP b) : eP p q a * eP p q b = eP p q (adE1q a b) :=
 Wa hP hp ha hb ta tb BM (RX _ _ _)
theorem Yc {p q k u' s' : Fin Pp} (hP : q * q = p * p * p + 4) (hM : LnE p q k u' s') {a : qn} (ha : onE1q a) (ta : nsEq a xT = psP a) : eP (p + u') (q + k * u') a * eP p q a = eP (p + s') (-(q + k * s')) a :=
 XR hP hM ha ta BM (RX _ _ _)
end Go.Ev
set_option linter.unusedVariables false
set_option linter.unusedSimpArgs false
namespace Go.Ev
theorem OE {p q : Fin Pp} (hq : q ≠ 0) (a b : qn) : cK p (-q) a b = conj12 (cK p q a b) := by
 match a, b with
 | none, b => rw [ut, ut, q9]
 | some a, none => rw [uv, uv, q9]
 | some (x1, y1), some (x, y) =>
  by_cases hn : x1 = x /\ y1 + y = 0
  ·rw [sY hn, sY hn, q9]
  ·show (if x1 = x /\ y1 + y = 0 then (1 : K12) else finK (lnK (tP x1 y1 x y) x y p (-q))) = conj12 (if x1 = x /\ y1 + y = 0 then (1 : K12) else finK (lnK (tP x1 y1 x y) x y p q))
   rw [if_neg hn, if_neg hn, ← z3, uJ (tT _ _ _ p hq)]
theorem JC {p q : Fin Pp} (hq : q ≠ 0) (a : qn) : ∀ (l : List Bool) (s t : K12 × Nat), s.2 = t.2 -> s.1 = conj12 t.1 -> (l.foldl (stS p (-q) a) s).1 = conj12 (l.foldl (stS p q a) t).1
 | [], s, t, _, h => h
 | c :: l, s, t, h2, h1 => by
  rw [List.foldl_cons, List.foldl_cons]
  have hd : (dbS p (-q) a s).1 = conj12 (dbS p q a t).1 := by
   show s.1 * s.1 * cK p (-q) (nsEq a s.2) (nsEq a s.2) = conj12 (t.1 * t.1 * cK p q (nsEq a t.2) (nsEq a t.2))
   rw [qq, qq, h2, h1, OE hq]
  have hd2 : (dbS p (-q) a s).2 = (dbS p q a t).2 := by simp [dbS, h2]
  refine JC hq a l _ _ (stS_cnt' s t c h2) ?_
  cases c with
  | false => exact hd
  | true =>
   show (dbS p (-q) a s).1 * cK p (-q) (nsEq a (dbS p (-q) a s).2) a = conj12 ((dbS p q a t).1 * cK p q (nsEq a (dbS p q a t).2) a)
   rw [qq, hd2, hd, OE hq]
where
 stS_cnt' (s t : K12 × Nat) (c : Bool) (h : s.2 = t.2) : (stS p (-q) a s c).2 = (stS p q a t c).2 := by
  cases c <;> simp [stS, ad1S, dbS, h]
theorem Nm {p q : Fin Pp} (hq : q ≠ 0) (a : qn) : eP p (-q) a = conj12 (eP p q a) := JC hq a BM _ _ rfl q9.symm
def Unk (z : K12) : Prop := z * (conj12 z : K12) = 1
theorem Unk.one : Unk 1 := by unfold Unk; rw [q9]; exact wZ 1
theorem Unk.mul {a b : K12} (ha : Unk a) (hb : Unk b) : Unk (a * b) := by
 unfold Unk at *
 rw [qq, sw4, ha, hb]; exact wZ 1
theorem Unk.pw {a : K12} (ha : Unk a) : ∀ n, Unk (pwK a n)
 | 0 => by rw [uB]; exact .one
 | n + 1 => by rw [xl]; exact (Unk.pw ha n).mul ha
theorem OY {p q : Fin Pp} (hq : q ≠ 0) (a : qn) : ∀ (l : List Bool) (s : K12 × Nat), Unk s.1 -> Unk (l.foldl (stS p q a) s).1
 | [], s, h => h
 | c :: l, s, h => by
  rw [List.foldl_cons]
  refine OY hq a l _ ?_
  have hd : Unk (dbS p q a s).1 := (h.mul h).mul (Fb hq _ _)
  cases c with
  | false => exact hd
  | true => exact hd.mul (Fb hq _ _)
theorem R2 {p q : Fin Pp} (hq : q ≠ 0) (a : qn) : Unk (eP p q a) := OY hq a BM _ .one
theorem Pq (p q : Fin Pp) : eP p q none = 1 := by
 have h : ∀ (l : List Bool) (s : K12 × Nat), s.1 = 1 -> (l.foldl (stS p q none) s).1 = 1 := by
  intro l
  induction l with
  | nil => intro s h; exact h
  | cons c l ih =>
   intro s h
   rw [List.foldl_cons]
   refine ih _ ?_
   have hd : (dbS p q none s).1 = 1 := by
    show s.1 * s.1 * cK p q (nsEq none s.2) (nsEq none s.2) = 1
    rw [wh, ut, h, wZ, wZ]
   cases c with
   | false => exact hd
   | true =>
    show (dbS p q none s).1 * cK p q (nsEq none (dbS p q none s).2) none = 1
    rw [hd, uv, wZ]
 exact h BM _ rfl
def epE : PtE -> qn -> K12
 | none, _ => 1
 | some P, a => eP P.1 P.2 a
theorem SP (a : qn) : epE none a = 1 := rfl
theorem NJ (P : PtE) : epE P none = 1 := by
 match P with
 | none => rfl
 | some P => exact Pq _ _
theorem Vl {P : PtE} (hP : onE1 P) (a : qn) : Unk (epE P a) := by
 match P, hP with
 | none, _ => exact .one
 | some (p, q), h => exact R2 (s6 _ _ h) a
theorem TL {P : PtE} (hP : onE1 P) (a : qn) : epE (ngE1 P) a = conj12 (epE P a) := by
 match P, hP with
 | none, _ => exact q9.symm
 | some (p, q), h => exact Nm (s6 _ _ h) a
theorem Wf {y1 y : Fin Pp} (h : y1 + y = 0) : y1 = -y := by grobner
theorem TU {P1 P2 : PtE} (h1 : onE1 P1) (h2 : onE1 P2) {a : qn} (ha : onE1q a) (ta : nsEq a xT = psP a) : epE (adE1 P1 P2) a = epE P1 a * epE P2 a := by
 match P1, P2, h1, h2 with
 | none, P2, _, _ => show epE P2 a = 1 * epE P2 a; grobner
 | some P1, none, _, _ => show epE (some P1) a = epE (some P1) a * 1; grobner
 | some (x1, y1), some (x, y), h1, h2 =>
  by_cases hn : x1 = x /\ y1 + y = 0
  ·rw [s9 hn]
   obtain ⟨rfl, e⟩ := hn
   have e := Wf e
   subst e
   have h := R2 (p := x1) (s6 _ _ h2) a
   show (1 : K12) = eP x1 (-y) a * eP x1 y a
   rw [Nm (s6 _ _ h2), ← h]
   generalize eP x1 y a = m
   generalize (conj12 m : K12) = n
   clear h; grobner
  ·obtain ⟨l, u, s, e1, e2, hL, e⟩ := uT h1 h2 hn
   rw [e]
   subst e1 e2
   exact (Yc h2 hL ha ta).symm
theorem H7 {P : PtE} (hP : onE1 P) {a : qn} (ha : onE1q a) (ta : nsEq a xT = psP a) : ∀ n, epE (nsE P n) a = pwK (epE P a) n
 | 0 => by rw [uB]; rfl
 | n + 1 => by
  rw [xl, ← H7 hP ha ta n]
  exact TU (re hP n) hP ha ta
def Nz : PtE -> Prop
 | none => True
 | some P => P.1 ≠ 0
theorem Rh {P : PtE} (hP : onE1 P) (hz : Nz P) {a b : qn} (ha : onE1q a) (hb : onE1q b) (ta : nsEq a xT = psP a) (tb : nsEq b xT = psP b) : epE P (adE1q a b) = epE P a * epE P b := by
 match P, hP, hz with
 | none, _, _ => exact (wZ 1).symm
 | some (p, q), h, hz => exact (XS h hz ha hb ta tb).symm
theorem IW {P : PtE} (hP : onE1 P) (hz : Nz P) {a : qn} (ha : onE1q a) (ta : nsEq a xT = psP a) : ∀ n, epE P (nsEq a n) = pwK (epE P a) n
 | 0 => by rw [uB]; exact NJ P
 | n + 1 => by
  rw [xl, ← IW hP hz ha ta n]
  exact Rh hP hz (rh ha n) ha (RD ha ta n) ta
theorem Oh (x y : Fin Pp) : C4 x y x y = 3 * x * x * ivE (2 * y) := if_pos rfl
theorem Z8 (i : Fin Pp) : 3 * 0 * 0 * i = 0 := by grobner
theorem W5 (q : Fin Pp) : C4 0 q 0 q = 0 := (Oh 0 q).trans (Z8 _)
theorem L5 {x1 y1 x y : Fin Pp} (hn : ¬ (x1 = x /\ y1 + y = 0)) : adE1 (some (x1, y1)) (some (x, y)) = some (Ht (C4 x1 y1 x y) x1 y1 x) := by show (if x1 = x /\ y1 + y = 0 then none else _) = _; rw [if_neg hn]
theorem L0 {q : Fin Pp} (h : q * q = 0 * 0 * 0 + 4) : nsE (some (0, q)) 3 = none := by
 have hq := s6 _ _ h
 have h2 : adE1 (some (0, q)) (some (0, q)) = some (0, -q) := by
  rw [L5 (fun e => IR h (by have := e.2; clear e hq h; grobner)), W5]
  unfold Ht
  congr 2 <;> (clear hq h; grobner)
 show adE1 (adE1 (adE1 none (some (0, q))) (some (0, q))) (some (0, q)) = none
 show adE1 (adE1 (some (0, q)) (some (0, q))) (some (0, q)) = none
 rw [h2]
 exact s9 ⟨rfl, by clear h2 hq h; grobner⟩
theorem YQ {p q : Fin Pp} (h : q * q = p * p * p + 4) {m n : Nat} (hm : n = 3 * m + 1) (hr : nsE (some (p, q)) n = none) : p ≠ 0 := fun e => by
 subst e
 have h3 := L0 h
 have ho : onE1 (some (0, q)) := h
 rw [hm, wW ho, ← qW ho, h3, rY] at hr
 cases hr
theorem ZV : Rr = 3 * 17478625058375396826482580169395321945896850833509212607534552899979527061504 + 1 := by decide
theorem YV {P : PtE} (hP : onE1 P) (hr : nsE P Rr = none) : Nz P := by
 revert hr
 rw [ZV]
 generalize hn : 3 * 17478625058375396826482580169395321945896850833509212607534552899979527061504 + 1 = n
 intro hr
 match P, hP, hr with
 | none, _, _ => trivial
 | some (p, q), hP, hr => exact YQ hP hn.symm hr
theorem V2 {a : qn} (ha : onE1q a) (hr : nsEq a Rr = none) {n : Nat} (h0 : 0 < n) (h1 : n < Rr) (hn : nsEq a n = none) : a = none := by
 have hx : (⟨n, h1⟩ : Fin Rr) ≠ 0 := fun e => by
  have := congrArg Fin.val e
  simp at this
  omega
 have hi := LW hx
 generalize pwS (⟨n, h1⟩ : Fin Rr) 52435875175126190479447740508185965837690552500527637822603658699938581184511 = i at hi
 have hv : n * i.val % Rr = 1 := by
  have := congrArg Fin.val hi
  rw [Fin.val_mul] at this
  exact this
 have e1 : nsEq a (n * i.val) = none := by rw [← vg ha, hn, wh]
 rw [← Nat.div_add_mod (n * i.val) Rr, hv, tE ha, ← vg ha, hr, wh] at e1
 exact e1
end Go.Ev
set_option linter.unusedVariables false
set_option linter.unusedSimpArgs false
namespace Go.Ev
theorem ZP : wG * wG = ((((0, 0) : F2), ((1, 0) : F2), ((0, 0) : F2)), (((0, 0) : F2), ((0, 0) : F2), ((0, 0) : F2))) := by decide +kernel
theorem aao : wG * wG * wG = ((((0, 0) : F2), ((0, 0) : F2), ((0, 0) : F2)), (((0, 0) : F2), ((1, 0) : F2), ((0, 0) : F2))) := by decide +kernel
theorem Wx (a b c : G2) : a + b * 0 + c * 0 = a := by grobner
theorem Wq (a b c : G2) : (0 : G2) + b * 1 + c * 0 = b := by grobner
theorem WJ (b c : G2) : (0 : G2) + b * 0 + c * 0 = 0 := by grobner
theorem Xy (b c : G2) : (0 : G2) + b * 0 + c * 1 = c := by grobner
theorem XE : (1 : G2) = ((1, 0) : F2) := K7
theorem VZ (a b c : F2) : (lin12 a b c : K12) = em2 a + em2 b * (wG * wG) + em2 c * (wG * wG * wG) := by
 rw [aao, ZP]
 have h1 : ∀ (d : F2) (x : F12), (em2 d * (x : K12) : K12) = ((mul2 d x.1.1, mul2 d x.1.2.1, mul2 d x.1.2.2), (mul2 d x.2.1, mul2 d x.2.2.1, mul2 d x.2.2.2)) := fun d x => wY d x
 rw [h1, h1]
 have l1 := Wx a b c
 have l2 := Wq a b c
 have l3 := WJ b c
 have l4 := Xy b c
 rw [XE] at l2 l4
 exact ext12 (vv l1.symm l2.symm l3.symm) (vv l3.symm l4.symm l3.symm)
theorem JA (a : F2) (n : Fin Pp) : (scl2 a n : G2) = (a : G2) * (up2 n : G2) := by
 show (a.1 * n, a.2 * n) = mul2 a (n, 0)
 refine sJ ?_ ?_ <;> simp only [mul2] <;> grobner
theorem PP {k : G2} (hk : k ≠ 0) : finK (em2 k) = 1 := wM (fun e => hk (Ba (e.trans Np.symm))) (uK k)
theorem TN {K l x y A B C : G2} {p q : Fin Pp} (hA : A = -(K * y) + K * l * x) (hB : B = -(K * l * up2 p)) (hC : C = K * up2 q) : (lin12 A B C : K12) = em2 K * lnK l x y p q := by
 rw [VZ, hA, hB, hC]
 unfold lnK tX tY em1
 simp only [se, vd, qQ]
 generalize em2 K = k
 generalize em2 y = y'
 generalize em2 x = x'
 generalize em2 l = l'
 generalize em2 (up2 p) = p'
 generalize em2 (up2 q) = q'
 generalize wG = w
 clear hA hB hC
 grobner
theorem JH {K l x y A B C : G2} {p q : Fin Pp} (hK : K ≠ 0) (hq : q ≠ 0) (hA : A = -(K * y) + K * l * x) (hB : B = -(K * l * up2 p)) (hC : C = K * up2 q) : (lin12 A B C : K12) ≠ 0 /\ finK (lin12 A B C) = finK (lnK l x y p q) := by
 have e := TN (p := p) (q := q) hA hB hC
 have h1 : em2 K ≠ 0 := fun e => hK (Ba (e.trans Np.symm))
 have h2 := tT l x y p hq
 refine ⟨by rw [e]; exact neK h1 h2, ?_⟩
 rw [e, sF h1 h2, PP hK]
 generalize finK (lnK l x y p q) = z
 clear hA hB hC e
 grobner
theorem Xw {x y z l : G2} (h : 0 = 3 * x * x - 2 * y * l) : ((x * (z * z)) * (x * (z * z)) + (x * (z * z)) * (x * (z * z)) + (x * (z * z)) * (x * (z * z))) * (x * (z * z)) - (y * (z * z * z)) * (y * (z * z * z)) - (y * (z * z * z)) * (y * (z * z * z)) = -((2 * y * (z * z * z * z * z * z)) * y) + (2 * y * (z * z * z * z * z * z)) * l * x := by
 have h2 : 3 * x * x = 2 * y * l := by grobner
 have e : ((x * (z * z)) * (x * (z * z)) + (x * (z * z)) * (x * (z * z)) + (x * (z * z)) * (x * (z * z))) * (x * (z * z)) - (y * (z * z * z)) * (y * (z * z * z)) - (y * (z * z * z)) * (y * (z * z * z)) = (3 * x * x) * x * (z * z * z * z * z * z) - 2 * y * y * (z * z * z * z * z * z) := by clear h h2; grobner
 rw [e, h2]; clear h h2 e; grobner
theorem XQ {x y z l u : G2} (h : 0 = 3 * x * x - 2 * y * l) : -(((x * (z * z)) * (x * (z * z)) + (x * (z * z)) * (x * (z * z)) + (x * (z * z)) * (x * (z * z))) * (z * z) * u) = -((2 * y * (z * z * z * z * z * z)) * l * u) := by
 have h2 : 3 * x * x = 2 * y * l := by grobner
 have e : -(((x * (z * z)) * (x * (z * z)) + (x * (z * z)) * (x * (z * z)) + (x * (z * z)) * (x * (z * z))) * (z * z) * u) = -((3 * x * x) * (z * z * z * z * z * z) * u) := by clear h h2; grobner
 rw [e, h2]; clear h h2 e; grobner
theorem YB {y z u : G2} : ((y * (z * z * z)) * (z * z) * z + (y * (z * z * z)) * (z * z) * z) * u = (2 * y * (z * z * z * z * z * z)) * u := by grobner
theorem WE {x u : G2} (h : x = x + u) : u = 0 := by grobner
theorem WY {x y l s : G2} (h : 0 * s = 3 * x * x - 2 * y * l) : 0 = 3 * x * x - 2 * y * l := by grobner
theorem YE {y : G2} (h : y + y = 0) : 2 * y = 0 := by grobner
theorem QH {t : Pt2} {a : qn} {p q : Fin Pp} (ht : afJq t = a) (ha : a ≠ none) (ho : onE1q a) (hq : q ≠ 0) : (tchL t p q : K12) ≠ 0 /\ finK (tchL t p q) = cK p q a a := by
 have hz : t.2.2 ≠ (0 : G2) := fun e => ha (by rw [← ht]; exact si e)
 obtain ⟨x, y, e1, e2⟩ := wv t hz
 rw [ht] at e2
 subst e2
 have ho : y * y = x * x * x + bQ := ho
 have hy := xA ho
 have hn : ¬ (x = x /\ y + y = 0) := fun h => hy (YE h.2)
 obtain ⟨l, u, s, a1, a2, hL, _⟩ := rp ho ho hn
 have hu := WE a1
 subst hu
 have hc := u6 (p := p) (q := q) ho hL (by rw [← a1, ← a2]; exact hn)
 rw [← a1, ← a2] at hc
 rw [hc]
 have h0 : (0 : G2) = 3 * x * x - 2 * y * l := WY hL.prod
 generalize hzz : t.2.2 = z at hz e1
 have hz6 : z * z * z * z * z * z ≠ 0 := uu (uu (uu (uu (uu hz hz) hz) hz) hz) hz
 rw [e1]
 have hB := XQ (z := z) (u := up2 p) h0
 have hC := YB (y := y) (z := z) (u := up2 q)
 have hk := JH (K := 2 * y * (z * z * z * z * z * z)) (l := l) (x := x) (y := y) (p := p) (q := q) (uu hy hz6) hq (Xw (z := z) h0) hB hC
 rw [← JA] at hk
 rw [← JA] at hk
 exact hk
theorem YK {x y l u z : G2} : (y * (z * z) * z - (y + l * u) * (z * z * z)) * x - y * ((x * (z * z) - (x + u) * (z * z)) * z) = -(-(u * (z * z * z)) * y) + -(u * (z * z * z)) * l * x := by grobner
theorem Wb {x y l u z w : G2} : -((y * (z * z) * z - (y + l * u) * (z * z * z)) * w) = -(-(u * (z * z * z)) * l * w) := by grobner
theorem XX {x y l u z w : G2} : (x * (z * z) - (x + u) * (z * z)) * z * w = -(u * (z * z * z)) * w := by grobner
theorem Wv {x u : G2} (h : u = 0) : x + u = x := by grobner
theorem XY {u z : G2} (h : -(u * z) = 0) : u * z = 0 := by grobner
theorem Rq {t : Pt2} {x1 y1 x y : G2} {p q : Fin Pp} (ht : afJq t = some (x1, y1)) (h1 : y1 * y1 = x1 * x1 * x1 + bQ) (h : y * y = x * x * x + bQ) (hx : x1 ≠ x) (hq : q ≠ 0) : (Ii t (x, y, one2) p q : K12) ≠ 0 /\ finK (Ii t (x, y, one2) p q) = cK p q (some (x1, y1)) (some (x, y)) := by
 have hz : t.2.2 ≠ (0 : G2) := fun e => by rw [si e] at ht; cases ht
 obtain ⟨x1', y1', e1, e2⟩ := wv t hz
 rw [ht] at e2
 obtain ⟨rfl, rfl⟩ : x1 = x1' /\ y1 = y1' := by simpa using e2
 have hn : ¬ (x1 = x /\ y1 + y = 0) := fun h => hx h.1
 obtain ⟨l, u, s, a1, a2, hL, _⟩ := rp h1 h hn
 have hu : u ≠ 0 := fun e => hx (a1.trans (Wv e))
 subst a1 a2
 have hc := u6 (p := p) (q := q) h hL hn
 rw [hc]
 generalize hzz : t.2.2 = z at hz e1
 have hz3 : z * z * z ≠ 0 := uu (uu hz hz) hz
 rw [e1]
 have hK : -(u * (z * z * z)) ≠ 0 := fun e => uu hu hz3 (XY e)
 have hk := JH (K := -(u * (z * z * z))) (l := l) (x := x) (y := y) (p := p) (q := q) hK hq (YK (z := z)) (Wb (x := x) (y := y) (w := up2 p)) (XX (x := x) (y := y) (l := l) (w := up2 q))
 rw [← JA] at hk
 rw [← JA] at hk
 exact hk
theorem Km (n : Nat) : ((List.range (n + 1)).map fun i => Nat.testBit xT (62 - i)) = ((List.range n).map fun i => Nat.testBit xT (62 - i)) ++ [Nat.testBit xT (62 - n)] := by
 rw [List.range_succ, List.map_append]; rfl
def rN (p q : Fin Pp) (a : qn) (n : Nat) : K12 × Nat := ((List.range n).map fun i => Nat.testBit xT (62 - i)).foldl (stS p q a) (1, 1)
theorem Jp (p q : Fin Pp) (a : qn) (n : Nat) : rN p q a (n + 1) = stS p q a (rN p q a n) (Nat.testBit xT (62 - n)) := by
 unfold rN
 rw [Km, List.foldl_append]
 rfl
theorem U2 (p q : Fin Pp) (a : qn) : (rN p q a 63).1 = eP p q a := rfl
theorem Ob (p q : Fin Pp) (a : qn) : ∀ n, 1 <= (rN p q a n).2 /\ (rN p q a n).2 < 2 ^ (n + 1)
 | 0 => ⟨Nat.le_refl 1, show 1 < 2 ^ (0 + 1) from by decide⟩
 | n + 1 => by
  have ih := Ob p q a n
  rw [Jp]
  have e : (2 : Nat) ^ (n + 1 + 1) = 2 * 2 ^ (n + 1) := by rw [Nat.pow_succ, Nat.mul_comm]
  generalize rN p q a n = r at *
  cases Nat.testBit xT (62 - n) with
  | true => show 1 <= r.2 + r.2 + 1 /\ r.2 + r.2 + 1 < _; omega
  | false => show 1 <= r.2 + r.2 /\ r.2 + r.2 < _; omega
theorem Vg (n : Nat) (h : n <= 65) : 2 ^ n < Rr := Nat.lt_of_le_of_lt (Nat.pow_le_pow_right (by decide) h) (by decide)
theorem EK {x y : G2} (ho : y * y = x * x * x + bQ) (hr : nsEq (some (x, y)) Rr = none) {n : Nat} (h0 : 0 < n) (h1 : n < Rr) : nsEq (some (x, y)) n ≠ none := fun e => by
 have := V2 (a := some (x, y)) ho hr h0 h1 e
 cases this
theorem My (x y : G2) (n : Nat) : nsEq (some (x, y)) (n + 1) = adE1q (nsEq (some (x, y)) n) (some (x, y)) := rfl
theorem Tx {x y : G2} (ho : y * y = x * x * x + bQ) (hr : nsEq (some (x, y)) Rr = none) {n : Nat} (h0 : 1 < n) (h1 : n + 1 < Rr) {x1 y1 : G2} (e : nsEq (some (x, y)) n = some (x1, y1)) : x1 ≠ x := fun ex => by
 subst ex
 have on := rh (p := some (x1, y)) ho n
 rw [e] at on
 have on : y1 * y1 = x1 * x1 * x1 + bQ := on
 by_cases hy : y1 + y = 0
 ·have h2 := My x1 y n
  rw [e, rk ⟨rfl, hy⟩] at h2
  exact EK ho hr (by omega) h1 h2
 ·have e2 := yi on ho hy
  subst e2
  have hb := Ac (p := nsEq (some (x1, y1)) (n - 1)) (q := some (x1, y1)) (rh (p := some (x1, y1)) ho _) ho
  rw [← My x1 y1 (n - 1), show n - 1 + 1 = n by omega, e, EP] at hb
  exact EK ho hr (n := n - 1) (by omega) (by omega) hb.symm
section
variable {p q : Fin Pp} (hq : q ≠ 0) {x y : G2} (ho : y * y = x * x * x + bQ) (hr : nsEq (some (x, y)) Rr = none)
include hq ho hr
theorem JD : ∀ n, n <= 63 -> afJq (milN xT (x, y, one2) p q n).1 = nsEq (some (x, y)) (rN p q (some (x, y)) n).2 /\ ((milN xT (x, y, one2) p q n).2 : K12) ≠ 0 /\ finK (milN xT (x, y, one2) p q n).2 = (rN p q (some (x, y)) n).1
 | 0, _ => by
  refine ⟨?_, ?_, ?_⟩
  ·show afJq (x, y, one2) = nsEq (some (x, y)) 1
   rw [xG]; rfl
  ·show (one12 : K12) ≠ 0
   rw [← xu]; decide +kernel
  ·show finK (one12 : K12) = 1
   rw [← xu]
   exact wM (by decide +kernel) q9
 | n + 1, hn => by
  obtain ⟨i1, i2, i3⟩ := JD n (by omega)
  have hc := Ob p q (some (x, y)) n
  have hb := Vg (n + 1 + 1) (by omega)
  have e2 : (2 : Nat) ^ (n + 1 + 1) = 2 * 2 ^ (n + 1) := by rw [Nat.pow_succ, Nat.mul_comm]
  have hm : milN xT (x, y, one2) p q (n + 1) = Kg (x, y, one2) p q (milN xT (x, y, one2) p q n) (Nat.testBit xT (62 - n)) := rfl
  rw [hm, Jp]
  generalize milN xT (x, y, one2) p q n = s at *
  generalize rN p q (some (x, y)) n = r at *
  have hne := EK ho hr (n := r.2) (by omega) (by omega)
  have hon := rh (p := some (x, y)) ho r.2
  obtain ⟨t1, t2⟩ := QH (p := p) i1 hne hon hq
  have htw : afJq (rq s.1) = nsEq (some (x, y)) (r.2 + r.2) := by
   rw [BS s.1 (by rw [i1]; exact hon), i1, tE (p := some (x, y)) ho]
  have hff : ((mul12 (mul12 s.2 s.2) (tchL s.1 p q) : F12) : K12) ≠ 0 := neK (neK i2 i2) t1
  have hfi : finK (mul12 (mul12 s.2 s.2) (tchL s.1 p q)) = r.1 * r.1 * cK p q (nsEq (some (x, y)) r.2) (nsEq (some (x, y)) r.2) := by
   have : finK ((s.2 : K12) * s.2 * tchL s.1 p q) = finK s.2 * finK s.2 * finK (tchL s.1 p q) := by rw [sF (neK i2 i2) t1, sF i2 i2]
   rw [i3, t2] at this
   exact this
  cases Nat.testBit xT (62 - n) with
  | false => exact ⟨htw, hff, hfi⟩
  | true =>
   have hne2 := EK ho hr (n := r.2 + r.2) (by omega) (by omega)
   obtain ⟨x1, y1, exy⟩ : ∃ x1 y1, nsEq (some (x, y)) (r.2 + r.2) = some (x1, y1) := by
    cases h : nsEq (some (x, y)) (r.2 + r.2) with
    | none => exact absurd h hne2
    | some w => exact ⟨w.1, w.2, rfl⟩
   have hx := Tx ho hr (n := r.2 + r.2) (by omega) (by omega) exy
   have on1 := rh (p := some (x, y)) ho (r.2 + r.2)
   rw [exy] at on1
   have on1 : y1 * y1 = x1 * x1 * x1 + bQ := on1
   rw [exy] at htw
   obtain ⟨u1, u2⟩ := Rq (p := p) htw on1 ho hx hq
   refine ⟨?_, neK hff u1, ?_⟩
   ·show afJq (vr (rq s.1) (x, y, one2)) = nsEq (some (x, y)) (r.2 + r.2 + 1)
    have ho1 : onE1q (afJq (rq s.1)) := by rw [htw]; exact on1
    have ho2 : onE1q (afJq (x, y, one2)) := by rw [xG]; exact ho
    rw [CG _ _ ho1 ho2, htw, xG]
    show _ = adE1q (nsEq (some (x, y)) (r.2 + r.2)) (some (x, y))
    rw [exy]
   ·have h3 : finK (((mul12 (mul12 s.2 s.2) (tchL s.1 p q) : F12) : K12) * Ii (rq s.1) (x, y, one2) p q) = finK (mul12 (mul12 s.2 s.2) (tchL s.1 p q)) * finK (Ii (rq s.1) (x, y, one2) p q) := sF hff u1
    rw [hfi, u2, ← exy] at h3
    exact h3
theorem PK : (conj12 (milN xT (x, y, one2) p q 63).2 : K12) ≠ 0 /\ finK (conj12 (milN xT (x, y, one2) p q 63).2) = conj12 (eP p q (some (x, y))) := by
 obtain ⟨_, h2, h3⟩ := JD hq ho hr 63 (Nat.le_refl _)
 refine ⟨yT h2, ?_⟩
 rw [uJ h2, h3, U2]
end
end Go.Ev
