/- Chapter 40: the group's functions, told over whole numbers (Pg of chapter 08, what this chapter reaches). -/
import Derived.Test.YtkaebblbmoolaaaDoorNt
import Derived.Test.YtkaebblbmoolaaaDoorPx6
import Derived.Test.YtkaebblbmoolaaaDoorPx7
import Derived.Test.YtkaebblbmoolaaaDoorPx3
set_option linter.unusedSimpArgs false
set_option linter.unusedVariables false
namespace Go.Proofs.YtkaebblbmoolaaaDoor.P
open Go Go.RowKit Go.Proofs.YtkaebblbmoolaaaDoorW.PrintWords Go.Proofs.YtkaebblbmoolaaaDoorW.PrintLast Go.Proofs.YtkaebblbmoolaaaDoorW.PrintMore

/-- A power modulo m. -/
def pwM (m : Nat) (a x : Int) : Int := ((a.toNat ^ x.toNat % m : Nat) : Int)
/-- A power modulo P. -/
def pwZ (a x : Int) : Int := pwM Nt.P a x
theorem pwM_lt (m : Nat) (hm : 0 < m) (a x : Int) : 0 ≤ pwM m a x ∧ pwM m a x < m := by
  unfold pwM
  have := Nat.mod_lt (a.toNat ^ x.toNat) hm
  omega
theorem pwZ_lt (a x : Int) : 0 ≤ pwZ a x ∧ pwZ a x < 2147483579 := pwM_lt Nt.P (by decide) a x
theorem tmod_nat (a b : Int) (ha : 0 ≤ a) (hb : 0 < b) : Int.tmod a b = a % b := by rw [Int.tmod_eq_emod_of_nonneg ha]
theorem mul_lt31 {a b : Int} (ha : 0 ≤ a) (ha1 : a < 2147483648) (hb : 0 ≤ b) (hb1 : b < 2147483648) : 0 ≤ a * b ∧ a * b < 4611686018427387904 := by
  refine ⟨Int.mul_nonneg ha hb, ?_⟩
  have h1 : a * b ≤ 2147483647 * b := Int.mul_le_mul_of_nonneg_right (by omega) hb
  omega
theorem wrap_id {a : Int} (h0 : -9223372036854775808 ≤ a) (h1 : a ≤ 9223372036854775807) : wrap64 a = a := by unfold wrap64; omega
theorem mul_mod {a b m : Int} (ha : 0 ≤ a) (ha1 : a < 2147483648) (hb : 0 ≤ b) (hb1 : b < 2147483648) (hm : 0 < m) : Int.tmod (wrap64 (a * b)) m = a * b % m := by
  obtain ⟨h0, h1⟩ := mul_lt31 ha ha1 hb hb1
  rw [wrap_id (by omega) (by omega), tmod_nat _ _ h0 hm]
/-- One round of a power by squaring, over natural numbers. -/
theorem pw_round (m a x o : Nat) : (if x % 2 = 1 then o * a % m else o) * (a * a % m) ^ (x / 2) % m = o * a ^ x % m := by
  have e : a ^ x = a ^ (x % 2) * (a * a) ^ (x / 2) := by
    rw [← Nat.pow_two, ← Nat.pow_mul, ← Nat.pow_add, Nat.mod_add_div]
  rw [Nat.mul_mod, ← Nat.pow_mod, ← Nat.mul_mod]
  split
  · next h1 => rw [e, h1, Nat.pow_one, Nat.mul_mod, Nat.mod_mod, ← Nat.mul_mod, Nat.mul_assoc]
  · next h1 => rw [e, show x % 2 = 0 from by omega, Nat.pow_zero, Nat.one_mul]
theorem powZ_nat : ∀ (k a x o : Nat), a < 2147483579 → o < 2147483579 → x < 2 ^ k → powZ k (a : Int) (x : Int) (o : Int) = ((o * a ^ x % 2147483579 : Nat) : Int)
  | 0, a, x, o, ha, ho, hx => by
    obtain rfl : x = 0 := by simpa using hx
    simp [powZ, Nat.mod_eq_of_lt ho]
  | k + 1, a, x, o, ha, ho, hx => by
    unfold powZ
    by_cases h0 : x = 0
    · subst h0
      rw [if_neg (by omega), Nat.pow_zero, Nat.mul_one, Nat.mod_eq_of_lt ho]
    · rw [if_pos (by omega)]
      have e1 : mulP (a : Int) (a : Int) = ((a * a % 2147483579 : Nat) : Int) := by
        unfold mulP
        rw [mul_mod (by omega) (by omega) (by omega) (by omega) (by omega)]
        simp
      have e2 : mulP (o : Int) (a : Int) = ((o * a % 2147483579 : Nat) : Int) := by
        unfold mulP
        rw [mul_mod (by omega) (by omega) (by omega) (by omega) (by omega)]
        simp
      have e3 : (if (x : Int) % 2 = 1 then mulP (o : Int) (a : Int) else (o : Int)) = ((if x % 2 = 1 then o * a % 2147483579 else o : Nat) : Int) := by
        rw [e2]
        by_cases h1 : x % 2 = 1
        · rw [if_pos (by omega), if_pos h1]
        · rw [if_neg (by omega), if_neg h1]
      have e4 : ((x : Int) / 2) = ((x / 2 : Nat) : Int) := by omega
      rw [e1, e3, e4, powZ_nat k _ _ _ (Nat.mod_lt _ (by decide)) (by split; exact Nat.mod_lt _ (by decide); exact ho) (by rw [Nat.pow_succ] at hx; omega), pw_round]
theorem power_f (a x : Int) (ha : 0 ≤ a) (ha1 : a < 2147483579) (hx : 0 ≤ x) (hx1 : x < 2147483648) : group_power.f a x = some (pwZ a x) := by
  unfold group_power.f
  rw [if_pos (by omega)]
  obtain ⟨a, rfl⟩ := Int.eq_ofNat_of_zero_le ha
  obtain ⟨x, rfl⟩ := Int.eq_ofNat_of_zero_le hx
  have h := powZ_nat 64 a x 1 (by omega) (by decide) (by omega)
  rw [Nat.one_mul] at h
  exact congrArg some h
theorem refPower_l0 (m : Nat) (hm : m < 2147483648) : ∀ (d k a x o : Nat), a < m → o < m → x < 2 ^ d → d < k → x < 2147483648 → cohousingref08_Power.l0 k (a : Int) (x : Int) (m : Int) (o : Int) = some ((o * a ^ x % m : Nat) : Int)
  | d, 0, a, x, o, ha, ho, hx, hk, hb => by omega
  | 0, k + 1, a, x, o, ha, ho, hx, hk, hb => by
    obtain rfl : x = 0 := by simpa using hx
    simp only [cohousingref08_Power.l0]
    rw [if_neg (by omega), Nat.pow_zero, Nat.mul_one, Nat.mod_eq_of_lt ho]
  | d + 1, k + 1, a, x, o, ha, ho, hx, hk, hb => by
    by_cases h0 : x = 0
    · subst h0
      simp only [cohousingref08_Power.l0]
      rw [if_neg (by omega), Nat.pow_zero, Nat.mul_one, Nat.mod_eq_of_lt ho]
    · have e1 : Int.tmod (wrap64 ((a : Int) * (a : Int))) (m : Int) = ((a * a % m : Nat) : Int) := by
        rw [mul_mod (by omega) (by omega) (by omega) (by omega) (by omega)]; simp
      have e2 : Int.tmod (wrap64 ((o : Int) * (a : Int))) (m : Int) = ((o * a % m : Nat) : Int) := by
        rw [mul_mod (by omega) (by omega) (by omega) (by omega) (by omega)]; simp
      have e3 : wrap64 (Int.tdiv (x : Int) 2) = ((x / 2 : Nat) : Int) := by
        have hxx : x < 2 ^ (d + 1) := hx
        have hd : (Int.tdiv (x : Int) 2) = ((x / 2 : Nat) : Int) := by
          rw [Int.tdiv_eq_ediv_of_nonneg (by omega)]; omega
        rw [hd]
        exact wrap_id (by omega) (by omega)
      have ih := fun o' ho' => refPower_l0 m hm d k (a * a % m) (x / 2) o' (Nat.mod_lt _ (by omega)) ho' (by rw [Nat.pow_succ] at hx; omega) (by omega) (by omega)
      simp only [cohousingref08_Power.l0]
      rw [if_pos (by omega), e1, e2, e3, tmod_nat _ _ (by omega) (by omega)]
      have hr := pw_round m a x o
      by_cases h1 : x % 2 = 1
      · rw [if_pos (by omega), if_neg (by omega), ih _ (Nat.mod_lt _ (by omega))]
        rw [if_pos h1] at hr
        rw [hr]
      · rw [if_neg (by omega), if_neg (by omega), ih _ ho]
        rw [if_neg h1] at hr
        rw [hr]
theorem refPower_f (m : Nat) (hm : m < 2147483648) (h1m : 1 < m) (a x : Int) (ha : 0 ≤ a) (ha1 : a < m) (hx : 0 ≤ x) (hx1 : x < 2147483648) (k : Nat) (hk : 40 ≤ k) : cohousingref08_Power.f k a x (m : Int) = some (pwM m a x) := by
  unfold cohousingref08_Power.f
  obtain ⟨a, rfl⟩ := Int.eq_ofNat_of_zero_le ha
  obtain ⟨x, rfl⟩ := Int.eq_ofNat_of_zero_le hx
  have h := refPower_l0 m hm 31 k a x 1 (by omega) h1m (by omega) (by omega) (by omega)
  rw [Nat.one_mul] at h
  exact h
theorem refPower_P (a x : Int) (ha : 0 ≤ a) (ha1 : a < 2147483579) (hx : 0 ≤ x) (hx1 : x < 2147483648) (k : Nat) (hk : 40 ≤ k) : cohousingref08_Power.f k a x 2147483579 = some (pwZ a x) :=
  refPower_f Nt.P (by decide) (by decide) a x ha ha1 hx hx1 k hk
theorem refPower_Q (a x : Int) (ha : 0 ≤ a) (ha1 : a < 1073741789) (hx : 0 ≤ x) (hx1 : x < 2147483648) (k : Nat) (hk : 40 ≤ k) : cohousingref08_Power.f k a x 1073741789 = some (pwM Nt.Q a x) :=
  refPower_f Nt.Q (by decide) (by decide) a x ha ha1 hx hx1 k hk

/-- An element of the group. -/
def memB (a : Int) : Bool := decide (0 < a) && (decide (a < 2147483579) && pwZ a 1073741789 == 1)
def expB (x : Int) : Bool := decide (0 ≤ x) && decide (x < 1073741789)
def secB (x : Int) : Bool := decide (1 ≤ x) && decide (x < 1073741789)
def baseB (a : Int) : Bool := memB a && a != 1
theorem memB_lt {a : Int} (h : memB a = true) : 0 < a ∧ a < 2147483579 := by
  simp only [memB, Bool.and_eq_true, decide_eq_true_eq] at h
  exact ⟨h.1, h.2.1⟩
theorem expB_lt {x : Int} (h : expB x = true) : 0 ≤ x ∧ x < 1073741789 := by
  simpa only [expB, Bool.and_eq_true, decide_eq_true_eq] using h
theorem secB_lt {x : Int} (h : secB x = true) : 1 ≤ x ∧ x < 1073741789 := by
  simpa only [secB, Bool.and_eq_true, decide_eq_true_eq] using h
theorem member_f (a : Int) : group_Member.f a = some (memB a) := by
  unfold group_Member.f memB
  by_cases h0 : 0 < a
  · by_cases h1 : a < 2147483579
    · rw [if_pos h0, if_pos h1, power_f a _ (by omega) h1 (by omega) (by omega)]
      simp [h0, h1]
    · rw [if_pos h0, if_neg h1]; simp [h1]
  · rw [if_neg h0]; simp [h0]
theorem refMember_f (a : Int) (k : Nat) (hk : 40 ≤ k) : cohousingref08_Member.f k a = some (memB a) := by
  unfold cohousingref08_Member.f memB
  by_cases h0 : 0 < a
  · by_cases h1 : a < 2147483579
    · rw [if_pos (by omega), if_pos h1, refPower_P a _ (by omega) h1 (by omega) (by omega) k hk]
      simp [h0, h1]
    · rw [if_pos (by omega), if_neg h1]; simp [h1]
  · rw [if_neg (by omega)]; simp [h0]
theorem fits_f (x l : Int) : group_exponent_fits.f x l = some (decide (l ≤ x) && decide (x < 1073741789)) := by
  unfold group_exponent_fits.f
  by_cases h : l ≤ x
  · rw [if_pos h]; simp [h]
  · rw [if_neg h]; simp [h]
theorem fits0 (x : Int) : group_exponent_fits.f x 0 = some (expB x) := fits_f x 0
theorem fits1 (x : Int) : group_exponent_fits.f x 1 = some (secB x) := fits_f x 1
theorem refExponent_f (x : Int) : cohousingref08_Exponent.f x = some (expB x) := by
  unfold cohousingref08_Exponent.f expB
  by_cases h : 0 ≤ x
  · rw [if_pos h]; simp [h]
  · rw [if_neg (by omega)]; simp [h]
def mulV (a b : Int) : Int × Int := if memB a && memB b then (a * b % 2147483579, 0) else (0, 1)
theorem mul_f (a b : Int) : group_Mul.f a b = some (mulV a b) := by
  unfold group_Mul.f mulV
  rw [member_f, member_f]
  simp only [Option.bind_some]
  cases ha : memB a with
  | false => simp
  | true =>
    cases hb : memB b with
    | false => simp
    | true =>
      have h1 := memB_lt ha
      have h2 := memB_lt hb
      rw [mul_mod (by omega) (by omega) (by omega) (by omega) (by omega)]
      simp
def expV (a x : Int) : Int × Int := if memB a && expB x then (pwZ a x, 0) else (0, 1)
theorem exp_f (a x : Int) : group_Exp.f a x = some (expV a x) := by
  unfold group_Exp.f expV
  rw [member_f, fits0]
  simp only [Option.bind_some]
  cases ha : memB a with
  | false => simp
  | true =>
    cases hb : expB x with
    | false => simp
    | true =>
      have h1 := memB_lt ha
      have h2 := expB_lt hb
      rw [power_f a x (by omega) (by omega) (by omega) (by omega)]
      simp
theorem mul_pw (a x b y : Int) : Int.tmod (wrap64 (pwZ a x * pwZ b y)) 2147483579 = pwZ a x * pwZ b y % 2147483579 := by
  have h1 := pwZ_lt a x
  have h2 := pwZ_lt b y
  exact mul_mod (by omega) (by omega) (by omega) (by omega) (by omega)
end Go.Proofs.YtkaebblbmoolaaaDoor.P
