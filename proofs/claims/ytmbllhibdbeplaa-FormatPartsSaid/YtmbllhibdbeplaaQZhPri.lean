/- Pruned: ZhPri. -/
import Derived.Test.YtmbllhibdbeplaaQZhFer
import Derived.Test.YtmbllhibdbeplaaQZhPwn
set_option linter.unusedSimpArgs false
set_option linter.unusedVariables false
namespace Go.Ev

theorem pr_2 : Pr 2 := prime_trial (k := 0) (by decide) (by decide +kernel) (by decide)
theorem pr_3 : Pr 3 := prime_trial (k := 0) (by decide) (by decide +kernel) (by decide)
theorem pr_11 : Pr 11 := prime_trial (k := 2) (by decide) (by decide +kernel) (by decide)
theorem pr_23 : Pr 23 := prime_trial (k := 3) (by decide) (by decide +kernel) (by decide)
theorem pr_47 : Pr 47 := prime_trial (k := 5) (by decide) (by decide +kernel) (by decide)
theorem pr_7577 : Pr 7577 := prime_trial (k := 86) (by decide) (by decide +kernel) (by decide)
theorem pr_10177 : Pr 10177 := prime_trial (k := 99) (by decide) (by decide +kernel) (by decide)
theorem pr_582767 : Pr 582767 := prime_trial (k := 762) (by decide) (by decide +kernel) (by decide)
theorem pr_859267 : Pr 859267 := prime_trial (k := 925) (by decide) (by decide +kernel) (by decide)
theorem pr_52437899 : Pr 52437899 := prime_trial (k := 7240) (by decide) (by decide +kernel) (by decide)
theorem pr_9272813673901 : Pr 9272813673901 := prime_sqrt (F := 4415625559) (by decide) (fun s hs hd => by
  have d0 := pockM (N := 9272813673901) 5 582767 1 64 (by decide) pr_582767 (by decide) (by decide +kernel) (by decide +kernel) (by decide +kernel) (by decide +kernel) hs hd
  have c1 := pockM (N := 9272813673901) 5 7577 1 64 (by decide) pr_7577 (by decide) (by decide +kernel) (by decide +kernel) (by decide +kernel) (by decide +kernel) hs hd
  have d1 := Nat.Coprime.mul_dvd_of_dvd_of_dvd (show Nat.Coprime (582767 ^ 1) (7577 ^ 1) from by decide +kernel) d0 c1
  exact (show (582767 ^ 1) * 7577 ^ 1 = 4415625559 from by decide +kernel) ▸ d1) (by decide)
theorem pr_1928745244171409 : Pr 1928745244171409 := prime_sqrt (F := 9272813673901) (by decide) (fun s hs hd => by
  have d0 := pockM (N := 1928745244171409) 5 9272813673901 1 64 (by decide) pr_9272813673901 (by decide) (by decide +kernel) (by decide +kernel) (by decide +kernel) (by decide +kernel) hs hd
  exact (show 9272813673901 ^ 1 = 9272813673901 from by decide +kernel) ▸ d0) (by decide)
theorem pr_7259797099061183477 : Pr 7259797099061183477 := prime_sqrt (F := 1928745244171409) (by decide) (fun s hs hd => by
  have d0 := pockM (N := 7259797099061183477) 5 1928745244171409 1 64 (by decide) pr_1928745244171409 (by decide) (by decide +kernel) (by decide +kernel) (by decide +kernel) (by decide +kernel) hs hd
  exact (show 1928745244171409 ^ 1 = 1928745244171409 from by decide +kernel) ▸ d0) (by decide)
theorem pr_2584487767265781317813 : Pr 2584487767265781317813 := prime_sqrt (F := 7259797099061183477) (by decide) (fun s hs hd => by
  have d0 := pockM (N := 2584487767265781317813) 5 7259797099061183477 1 80 (by decide) pr_7259797099061183477 (by decide) (by decide +kernel) (by decide +kernel) (by decide +kernel) (by decide +kernel) hs hd
  exact (show 7259797099061183477 ^ 1 = 7259797099061183477 from by decide +kernel) ▸ d0) (by decide)
theorem div_P : ∀ s, Pr s → s ∣ 4002409555221667393417789825735904156556882819939007885332058136124031650490837864442687629129015664037894272559787 → 253663835868735594330404923636534084567099854 ∣ s - 1 := fun s hs hd => by
  have d0 := pockM (N := 4002409555221667393417789825735904156556882819939007885332058136124031650490837864442687629129015664037894272559787) 5 2 1 384 (by decide) pr_2 (by decide) (by decide +kernel) (by decide +kernel) (by decide +kernel) (by decide +kernel) hs hd
  have c1 := pockM (N := 4002409555221667393417789825735904156556882819939007885332058136124031650490837864442687629129015664037894272559787) 5 3 2 384 (by decide) pr_3 (by decide) (by decide +kernel) (by decide +kernel) (by decide +kernel) (by decide +kernel) hs hd
  have d1 := Nat.Coprime.mul_dvd_of_dvd_of_dvd (show Nat.Coprime (2 ^ 1) (3 ^ 2) from by decide +kernel) d0 c1
  have c2 := pockM (N := 4002409555221667393417789825735904156556882819939007885332058136124031650490837864442687629129015664037894272559787) 5 11 1 384 (by decide) pr_11 (by decide) (by decide +kernel) (by decide +kernel) (by decide +kernel) (by decide +kernel) hs hd
  have d2 := Nat.Coprime.mul_dvd_of_dvd_of_dvd (show Nat.Coprime ((2 ^ 1) * 3 ^ 2) (11 ^ 1) from by decide +kernel) d1 c2
  have c3 := pockM (N := 4002409555221667393417789825735904156556882819939007885332058136124031650490837864442687629129015664037894272559787) 5 23 1 384 (by decide) pr_23 (by decide) (by decide +kernel) (by decide +kernel) (by decide +kernel) (by decide +kernel) hs hd
  have d3 := Nat.Coprime.mul_dvd_of_dvd_of_dvd (show Nat.Coprime (((2 ^ 1) * 3 ^ 2) * 11 ^ 1) (23 ^ 1) from by decide +kernel) d2 c3
  have c4 := pockM (N := 4002409555221667393417789825735904156556882819939007885332058136124031650490837864442687629129015664037894272559787) 5 47 1 384 (by decide) pr_47 (by decide) (by decide +kernel) (by decide +kernel) (by decide +kernel) (by decide +kernel) hs hd
  have d4 := Nat.Coprime.mul_dvd_of_dvd_of_dvd (show Nat.Coprime ((((2 ^ 1) * 3 ^ 2) * 11 ^ 1) * 23 ^ 1) (47 ^ 1) from by decide +kernel) d3 c4
  have c5 := pockM (N := 4002409555221667393417789825735904156556882819939007885332058136124031650490837864442687629129015664037894272559787) 5 10177 1 384 (by decide) pr_10177 (by decide) (by decide +kernel) (by decide +kernel) (by decide +kernel) (by decide +kernel) hs hd
  have d5 := Nat.Coprime.mul_dvd_of_dvd_of_dvd (show Nat.Coprime (((((2 ^ 1) * 3 ^ 2) * 11 ^ 1) * 23 ^ 1) * 47 ^ 1) (10177 ^ 1) from by decide +kernel) d4 c5
  have c6 := pockM (N := 4002409555221667393417789825735904156556882819939007885332058136124031650490837864442687629129015664037894272559787) 5 859267 1 384 (by decide) pr_859267 (by decide) (by decide +kernel) (by decide +kernel) (by decide +kernel) (by decide +kernel) hs hd
  have d6 := Nat.Coprime.mul_dvd_of_dvd_of_dvd (show Nat.Coprime ((((((2 ^ 1) * 3 ^ 2) * 11 ^ 1) * 23 ^ 1) * 47 ^ 1) * 10177 ^ 1) (859267 ^ 1) from by decide +kernel) d5 c6
  have c7 := pockM (N := 4002409555221667393417789825735904156556882819939007885332058136124031650490837864442687629129015664037894272559787) 5 52437899 1 384 (by decide) pr_52437899 (by decide) (by decide +kernel) (by decide +kernel) (by decide +kernel) (by decide +kernel) hs hd
  have d7 := Nat.Coprime.mul_dvd_of_dvd_of_dvd (show Nat.Coprime (((((((2 ^ 1) * 3 ^ 2) * 11 ^ 1) * 23 ^ 1) * 47 ^ 1) * 10177 ^ 1) * 859267 ^ 1) (52437899 ^ 1) from by decide +kernel) d6 c7
  have c8 := pockM (N := 4002409555221667393417789825735904156556882819939007885332058136124031650490837864442687629129015664037894272559787) 5 2584487767265781317813 1 384 (by decide) pr_2584487767265781317813 (by decide) (by decide +kernel) (by decide +kernel) (by decide +kernel) (by decide +kernel) hs hd
  have d8 := Nat.Coprime.mul_dvd_of_dvd_of_dvd (show Nat.Coprime ((((((((2 ^ 1) * 3 ^ 2) * 11 ^ 1) * 23 ^ 1) * 47 ^ 1) * 10177 ^ 1) * 859267 ^ 1) * 52437899 ^ 1) (2584487767265781317813 ^ 1) from by decide +kernel) d7 c8
  exact (show ((((((((2 ^ 1) * 3 ^ 2) * 11 ^ 1) * 23 ^ 1) * 47 ^ 1) * 10177 ^ 1) * 859267 ^ 1) * 52437899 ^ 1) * 2584487767265781317813 ^ 1 = 253663835868735594330404923636534084567099854 from by decide +kernel) ▸ d8
theorem pr_4002409555221667393417789825735904156556882819939007885332058136124031650490837864442687629129015664037894272559787 : Pr 4002409555221667393417789825735904156556882819939007885332058136124031650490837864442687629129015664037894272559787 := by
  refine ⟨by decide, fun d hd => ?_⟩
  obtain ⟨k, hk⟩ := hd
  by_cases h1 : d = 1
  · exact .inl h1
  by_cases h2 : d = 4002409555221667393417789825735904156556882819939007885332058136124031650490837864442687629129015664037894272559787
  · exact .inr h2
  exfalso
  have hd0 : 0 < d := Nat.pos_of_ne_zero fun e => by subst e; simp at hk
  have hk0 : 0 < k := Nat.pos_of_ne_zero fun e => by subst e; simp at hk
  have hk1 : k ≠ 1 := fun e => h2 (by rw [e, Nat.mul_one] at hk; exact hk.symm)
  obtain ⟨x, hx⟩ := all_div div_P d hd0 ⟨k, hk⟩
  obtain ⟨y, hy⟩ := all_div div_P k hk0 ⟨d, by rw [hk, Nat.mul_comm]⟩
  have e1 : d = 253663835868735594330404923636534084567099854 * x + 1 := by omega
  have e2 : k = 253663835868735594330404923636534084567099854 * y + 1 := by omega
  have hx0 : 0 < x := Nat.pos_of_ne_zero fun e => by subst e; omega
  have hy0 : 0 < y := Nat.pos_of_ne_zero fun e => by subst e; omega
  have e3 : 4002409555221667393417789825735904156556882819939007885332058136124031650490837864442687629129015664037894272559787 = 253663835868735594330404923636534084567099854 * (253663835868735594330404923636534084567099854 * (x * y)) + 253663835868735594330404923636534084567099854 * x + 253663835868735594330404923636534084567099854 * y + 1 := by
    rw [hk, e1, e2, Nat.add_mul, Nat.mul_add, Nat.mul_one, Nat.one_mul]
    rw [show 253663835868735594330404923636534084567099854 * x * (253663835868735594330404923636534084567099854 * y) = 253663835868735594330404923636534084567099854 * (253663835868735594330404923636534084567099854 * (x * y)) by rw [Nat.mul_assoc, Nat.mul_left_comm x]]
    omega
  have e4 : x + y ≤ x * y + 1 := by
    obtain ⟨u, rfl⟩ : ∃ u, x = u + 1 := ⟨x - 1, by omega⟩
    obtain ⟨v, rfl⟩ : ∃ v, y = v + 1 := ⟨y - 1, by omega⟩
    have : (u + 1) * (v + 1) = u * v + u + v + 1 := by rw [Nat.add_mul, Nat.mul_add]; omega
    omega
  generalize x * y = z at e3 e4
  omega

theorem prime_P : Pr Pp := pr_4002409555221667393417789825735904156556882819939007885332058136124031650490837864442687629129015664037894272559787

theorem pwP_succ (x : Fin Pp) (n : Nat) : pwP x (n + 1) = pwP x n * x := rfl
theorem pwP_val (x : Fin Pp) : ∀ n, (pwP x n).val = x.val ^ n % Pp
  | 0 => rfl
  | n + 1 => by
    rw [pwP_succ, Fin.val_mul, pwP_val x n, Nat.pow_succ, Nat.mod_mul_mod]
theorem not_dvdP {x : Fin Pp} (h : x ≠ 0) : ¬ Pp ∣ x.val := fun hd => by
  have h1 := x.isLt
  have h2 : x.val ≠ 0 := fun e => h (Fin.ext e)
  exact absurd (Nat.le_of_dvd (by omega) hd) (by omega)
theorem ferm_atP {x : Fin Pp} (h : x ≠ 0) (m : Nat) (hm : Pp - 1 = m) : pwP x m = 1 := Fin.ext (by
  rw [pwP_val, ← hm]
  exact (prime_P.fermat1 (x := x.val) (not_dvdP h)))
theorem mul_invP {x : Fin Pp} (h : x ≠ 0) : x * pwP x 4002409555221667393417789825735904156556882819939007885332058136124031650490837864442687629129015664037894272559785 = 1 := by
  have h1 := ferm_atP h (4002409555221667393417789825735904156556882819939007885332058136124031650490837864442687629129015664037894272559785 + 1) (by decide)
  rw [pwP_succ] at h1
  generalize pwP x 4002409555221667393417789825735904156556882819939007885332058136124031650490837864442687629129015664037894272559785 = y at *
  rw [← h1]
  grind
end Go.Ev
