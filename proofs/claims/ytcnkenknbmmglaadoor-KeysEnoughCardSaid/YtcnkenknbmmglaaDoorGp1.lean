/- Powers, members, secrets (out of chapter 8's texts). -/
import Derived.Test.YtcnkenknbmmglaaDoorNt
import Derived.Test.YtcnkenknbmmglaaDoorXbehind
import Derived.Test.YtcnkenknbmmglaaDoorXpower
import Derived.Test.YtcnkenknbmmglaaDoorPx4
import Derived.Test.YtcnkenknbmmglaaDoorPx8
import Derived.Test.YtcnkenknbmmglaaDoorPx8
import Derived.Test.YtcnkenknbmmglaaDoorPx8
set_option linter.unusedSimpArgs false
set_option linter.unusedVariables false
namespace Go.Proofs.YtcnkenknbmmglaaDoor.P
open Go Go.RowKit Go.Proofs.YtcnkenknbmmglaaDoorW.PrintWords Go.Proofs.YtcnkenknbmmglaaDoorW.PrintLast Go.Proofs.YtcnkenknbmmglaaDoorW.PrintMore
/-- A power modulo m. -/
def pwM (m : Nat) (a x : Int) : Int := ((a.toNat ^ x.toNat % m : Nat) : Int)
/-- A power modulo P. -/
def pwZ (a x : Int) : Int := pwM Nt.P a x
theorem pwM_lt (m : Nat) (hm : 0 < m) (a x : Int) : 0 ≤ pwM m a x ∧ pwM m a x < m := by
  unfold pwM
  have := Nat.mod_lt (a.toNat ^ x.toNat) hm
  omega
theorem pwZ_lt (a x : Int) : 0 ≤ pwZ a x ∧ pwZ a x < 2147483579 := pwM_lt Nt.P (by decide) a x
theorem tmod_nat (a b : Int) (ha : 0 ≤ a) (hb : 0 < b) : Int.tmod a b = a % b := by rw [Int.tmod_eq_emod_of_nonneg ha]
theorem mul_lt31 {a b : Int} (ha : 0 ≤ a) (ha1 : a < 2147483648) (hb : 0 ≤ b) (hb1 : b < 2147483648) : 0 ≤ a * b ∧ a * b < 4611686018427387904 := by
  refine ⟨Int.mul_nonneg ha hb, ?_⟩
  have h1 : a * b ≤ 2147483647 * b := Int.mul_le_mul_of_nonneg_right (by omega) hb
  omega
theorem wrap_id {a : Int} (h0 : -9223372036854775808 ≤ a) (h1 : a ≤ 9223372036854775807) : wrap64 a = a := by unfold wrap64; omega
theorem mul_mod {a b m : Int} (ha : 0 ≤ a) (ha1 : a < 2147483648) (hb : 0 ≤ b) (hb1 : b < 2147483648) (hm : 0 < m) : Int.tmod (wrap64 (a * b)) m = a * b % m := by
  obtain ⟨h0, h1⟩ := mul_lt31 ha ha1 hb hb1
  rw [wrap_id (by omega) (by omega), tmod_nat _ _ h0 hm]
/-- One round of a power by squaring, over natural numbers. -/
theorem pw_round (m a x o : Nat) : (if x % 2 = 1 then o * a % m else o) * (a * a % m) ^ (x / 2) % m = o * a ^ x % m := by
  have e : a ^ x = a ^ (x % 2) * (a * a) ^ (x / 2) := by
    rw [← Nat.pow_two, ← Nat.pow_mul, ← Nat.pow_add, Nat.mod_add_div]
  rw [Nat.mul_mod, ← Nat.pow_mod, ← Nat.mul_mod]
  split
  · next h1 => rw [e, h1, Nat.pow_one, Nat.mul_mod, Nat.mod_mod, ← Nat.mul_mod, Nat.mul_assoc]
  · next h1 => rw [e, show x % 2 = 0 from by omega, Nat.pow_zero, Nat.one_mul]
theorem powZ_nat : ∀ (k a x o : Nat), a < 2147483579 → o < 2147483579 → x < 2 ^ k → powZ k (a : Int) (x : Int) (o : Int) = ((o * a ^ x % 2147483579 : Nat) : Int)
  | 0, a, x, o, ha, ho, hx => by
    obtain rfl : x = 0 := by simpa using hx
    simp [powZ, Nat.mod_eq_of_lt ho]
  | k + 1, a, x, o, ha, ho, hx => by
    unfold powZ
    by_cases h0 : x = 0
    · subst h0
      rw [if_neg (by omega), Nat.pow_zero, Nat.mul_one, Nat.mod_eq_of_lt ho]
    · rw [if_pos (by omega)]
      have e1 : mulP (a : Int) (a : Int) = ((a * a % 2147483579 : Nat) : Int) := by
        unfold mulP
        rw [mul_mod (by omega) (by omega) (by omega) (by omega) (by omega)]
        simp
      have e2 : mulP (o : Int) (a : Int) = ((o * a % 2147483579 : Nat) : Int) := by
        unfold mulP
        rw [mul_mod (by omega) (by omega) (by omega) (by omega) (by omega)]
        simp
      have e3 : (if (x : Int) % 2 = 1 then mulP (o : Int) (a : Int) else (o : Int)) = ((if x % 2 = 1 then o * a % 2147483579 else o : Nat) : Int) := by
        rw [e2]
        by_cases h1 : x % 2 = 1
        · rw [if_pos (by omega), if_pos h1]
        · rw [if_neg (by omega), if_neg h1]
      have e4 : ((x : Int) / 2) = ((x / 2 : Nat) : Int) := by omega
      rw [e1, e3, e4, powZ_nat k _ _ _ (Nat.mod_lt _ (by decide)) (by split; exact Nat.mod_lt _ (by decide); exact ho) (by rw [Nat.pow_succ] at hx; omega), pw_round]
theorem power_f (a x : Int) (ha : 0 ≤ a) (ha1 : a < 2147483579) (hx : 0 ≤ x) (hx1 : x < 2147483648) : group_power.f a x = some (pwZ a x) := by
  unfold group_power.f
  rw [if_pos (by omega)]
  obtain ⟨a, rfl⟩ := Int.eq_ofNat_of_zero_le ha
  obtain ⟨x, rfl⟩ := Int.eq_ofNat_of_zero_le hx
  have h := powZ_nat 64 a x 1 (by omega) (by decide) (by omega)
  rw [Nat.one_mul] at h
  exact congrArg some h
theorem refPower_l0 (m : Nat) (hm : m < 2147483648) : ∀ (d k a x o : Nat), a < m → o < m → x < 2 ^ d → d < k → x < 2147483648 → cohousingref08_Power.l0 k (a : Int) (x : Int) (m : Int) (o : Int) = some ((o * a ^ x % m : Nat) : Int)
  | d, 0, a, x, o, ha, ho, hx, hk, hb => by omega
  | 0, k + 1, a, x, o, ha, ho, hx, hk, hb => by
    obtain rfl : x = 0 := by simpa using hx
    simp only [cohousingref08_Power.l0]
    rw [if_neg (by omega), Nat.pow_zero, Nat.mul_one, Nat.mod_eq_of_lt ho]
  | d + 1, k + 1, a, x, o, ha, ho, hx, hk, hb => by
    by_cases h0 : x = 0
    · subst h0
      simp only [cohousingref08_Power.l0]
      rw [if_neg (by omega), Nat.pow_zero, Nat.mul_one, Nat.mod_eq_of_lt ho]
    · have e1 : Int.tmod (wrap64 ((a : Int) * (a : Int))) (m : Int) = ((a * a % m : Nat) : Int) := by
        rw [mul_mod (by omega) (by omega) (by omega) (by omega) (by omega)]; simp
      have e2 : Int.tmod (wrap64 ((o : Int) * (a : Int))) (m : Int) = ((o * a % m : Nat) : Int) := by
        rw [mul_mod (by omega) (by omega) (by omega) (by omega) (by omega)]; simp
      have e3 : wrap64 (Int.tdiv (x : Int) 2) = ((x / 2 : Nat) : Int) := by
        have hxx : x < 2 ^ (d + 1) := hx
        have hd : (Int.tdiv (x : Int) 2) = ((x / 2 : Nat) : Int) := by
          rw [Int.tdiv_eq_ediv_of_nonneg (by omega)]; omega
        rw [hd]
        exact wrap_id (by omega) (by omega)
      have ih := fun o' ho' => refPower_l0 m hm d k (a * a % m) (x / 2) o' (Nat.mod_lt _ (by omega)) ho' (by rw [Nat.pow_succ] at hx; omega) (by omega) (by omega)
      simp only [cohousingref08_Power.l0]
      rw [if_pos (by omega), e1, e2, e3, tmod_nat _ _ (by omega) (by omega)]
      have hr := pw_round m a x o
      by_cases h1 : x % 2 = 1
      · rw [if_pos (by omega), if_neg (by omega), ih _ (Nat.mod_lt _ (by omega))]
        rw [if_pos h1] at hr
        rw [hr]
      · rw [if_neg (by omega), if_neg (by omega), ih _ ho]
        rw [if_neg h1] at hr
        rw [hr]
theorem refPower_f (m : Nat) (hm : m < 2147483648) (h1m : 1 < m) (a x : Int) (ha : 0 ≤ a) (ha1 : a < m) (hx : 0 ≤ x) (hx1 : x < 2147483648) (k : Nat) (hk : 40 ≤ k) : cohousingref08_Power.f k a x (m : Int) = some (pwM m a x) := by
  unfold cohousingref08_Power.f
  obtain ⟨a, rfl⟩ := Int.eq_ofNat_of_zero_le ha
  obtain ⟨x, rfl⟩ := Int.eq_ofNat_of_zero_le hx
  have h := refPower_l0 m hm 31 k a x 1 (by omega) h1m (by omega) (by omega) (by omega)
  rw [Nat.one_mul] at h
  exact h
theorem refPower_P (a x : Int) (ha : 0 ≤ a) (ha1 : a < 2147483579) (hx : 0 ≤ x) (hx1 : x < 2147483648) (k : Nat) (hk : 40 ≤ k) : cohousingref08_Power.f k a x 2147483579 = some (pwZ a x) :=
  refPower_f Nt.P (by decide) (by decide) a x ha ha1 hx hx1 k hk
theorem refPower_Q (a x : Int) (ha : 0 ≤ a) (ha1 : a < 1073741789) (hx : 0 ≤ x) (hx1 : x < 2147483648) (k : Nat) (hk : 40 ≤ k) : cohousingref08_Power.f k a x 1073741789 = some (pwM Nt.Q a x) :=
  refPower_f Nt.Q (by decide) (by decide) a x ha ha1 hx hx1 k hk
/-- An element of the group. -/
def memB (a : Int) : Bool := decide (0 < a) && (decide (a < 2147483579) && pwZ a 1073741789 == 1)
def expB (x : Int) : Bool := decide (0 ≤ x) && decide (x < 1073741789)
def secB (x : Int) : Bool := decide (1 ≤ x) && decide (x < 1073741789)
def baseB (a : Int) : Bool := memB a && a != 1
theorem memB_lt {a : Int} (h : memB a = true) : 0 < a ∧ a < 2147483579 := by
  simp only [memB, Bool.and_eq_true, decide_eq_true_eq] at h
  exact ⟨h.1, h.2.1⟩
theorem expB_lt {x : Int} (h : expB x = true) : 0 ≤ x ∧ x < 1073741789 := by
  simpa only [expB, Bool.and_eq_true, decide_eq_true_eq] using h
theorem secB_lt {x : Int} (h : secB x = true) : 1 ≤ x ∧ x < 1073741789 := by
  simpa only [secB, Bool.and_eq_true, decide_eq_true_eq] using h
theorem member_f (a : Int) : group_Member.f a = some (memB a) := by
  unfold group_Member.f memB
  by_cases h0 : 0 < a
  · by_cases h1 : a < 2147483579
    · rw [if_pos h0, if_pos h1, power_f a _ (by omega) h1 (by omega) (by omega)]
      simp [h0, h1]
    · rw [if_pos h0, if_neg h1]; simp [h1]
  · rw [if_neg h0]; simp [h0]
theorem refMember_f (a : Int) (k : Nat) (hk : 40 ≤ k) : cohousingref08_Member.f k a = some (memB a) := by
  unfold cohousingref08_Member.f memB
  by_cases h0 : 0 < a
  · by_cases h1 : a < 2147483579
    · rw [if_pos (by omega), if_pos h1, refPower_P a _ (by omega) h1 (by omega) (by omega) k hk]
      simp [h0, h1]
    · rw [if_pos (by omega), if_neg h1]; simp [h1]
  · rw [if_neg (by omega)]; simp [h0]
theorem fits_f (x l : Int) : group_exponent_fits.f x l = some (decide (l ≤ x) && decide (x < 1073741789)) := by
  unfold group_exponent_fits.f
  by_cases h : l ≤ x
  · rw [if_pos h]; simp [h]
  · rw [if_neg h]; simp [h]
theorem fits0 (x : Int) : group_exponent_fits.f x 0 = some (expB x) := fits_f x 0
theorem fits1 (x : Int) : group_exponent_fits.f x 1 = some (secB x) := fits_f x 1
theorem refExponent_f (x : Int) : cohousingref08_Exponent.f x = some (expB x) := by
  unfold cohousingref08_Exponent.f expB
  by_cases h : 0 ≤ x
  · rw [if_pos h]; simp [h]
  · rw [if_neg (by omega)]; simp [h]
theorem mul_pw (a x b y : Int) : Int.tmod (wrap64 (pwZ a x * pwZ b y)) 2147483579 = pwZ a x * pwZ b y % 2147483579 := by
  have h1 := pwZ_lt a x
  have h2 := pwZ_lt b y
  exact mul_mod (by omega) (by omega) (by omega) (by omega) (by omega)
theorem wf_u64 {a : Int} (h : (Lit.int .u64 a).wf = true) : 0 ≤ a ∧ a < 18446744073709551616 := by
  simp [Lit.wf, IntKind.min, IntKind.max, IntKind.bits, IntKind.signed] at h
  omega
theorem wf_i64 {a : Int} (h : (Lit.int .i64 a).wf = true) : -9223372036854775808 ≤ a ∧ a ≤ 9223372036854775807 := by
  simp [Lit.wf, IntKind.min, IntKind.max, IntKind.bits, IntKind.signed] at h
  omega
theorem pwZ_nat (a x : Nat) : pwZ (a : Int) (x : Int) = ((a ^ x % Nt.P : Nat) : Int) := by
  unfold pwZ pwM
  rw [Int.toNat_natCast, Int.toNat_natCast]
theorem memB_nat (a : Nat) : memB (a : Int) = true ↔ a < 2147483579 ∧ Nt.El a := by
  unfold memB
  rw [show (1073741789 : Int) = ((Nt.Q : Nat) : Int) from rfl, pwZ_nat a Nt.Q]
  simp only [Bool.and_eq_true, decide_eq_true_eq, beq_iff_eq]
  constructor
  · rintro ⟨h0, h1, h2⟩
    exact ⟨by omega, by unfold Nt.El; exact Int.ofNat.inj h2⟩
  · rintro ⟨h1, h2⟩
    have hp := h2.pos
    rw [Nat.mod_eq_of_lt (show a < Nt.P from h1)] at hp
    exact ⟨by omega, by omega, congrArg Int.ofNat h2⟩
theorem modP_lt (x : Nat) : x % Nt.P < 2147483579 := Nat.mod_lt _ (by decide)
theorem memB_mod {a : Nat} (h : Nt.El a) : memB ((a % Nt.P : Nat) : Int) = true :=
  (memB_nat _).2 ⟨Nat.mod_lt _ (by decide), h.mod⟩
theorem memB_pwZ {a : Nat} (h : Nt.El a) (x : Nat) : memB (pwZ (a : Int) (x : Int)) = true := by
  rw [pwZ_nat]
  exact memB_mod (h.pow x)
theorem expB_nat (x : Nat) : expB (x : Int) = true ↔ x < 1073741789 := by
  simp only [expB, Bool.and_eq_true, decide_eq_true_eq]; omega
def sec (n : Int) : Nat := 1 + (n % 1073741788).toNat
theorem sec_lt (n : Int) : 0 < sec n ∧ sec n < 1073741789 := by unfold sec; omega
theorem four_ne : 4 % Nt.P ≠ 1 := by decide
/-- The key that all know, of a secret. -/
def pub (n : Nat) : Nat := 4 ^ n % Nt.P
theorem pub_lt (n : Nat) : pub n < 2147483579 := Nat.mod_lt _ (by decide)
theorem pub_el (n : Nat) : Nt.El (pub n) := (Nt.G_el.pow _).mod
theorem pub_ne {n : Nat} (h0 : 0 < n) (h1 : n < 1073741789) : pub n ≠ 1 := Nt.G_el.pow_ne_one four_ne h0 h1
theorem refSecretOf_f (a : Int) (h : (Lit.int .u64 a).wf = true) : cohousingref08_Secret.f a = some (sec a : Int) := by
  obtain ⟨h0, h1⟩ := wf_u64 h
  unfold cohousingref08_Secret.f sec
  rw [tmod_nat _ _ h0 (by omega), wrap_id (a := a % 1073741788) (by omega) (by omega), wrap_id (by omega) (by omega)]
  congr 1
  omega
theorem refPub_f (n : Nat) (h : n < 1073741789) (k : Nat) (hk : 40 ≤ k) : cohousingref08_Power.f k 4 (n : Int) 2147483579 = some (pub n : Int) := by
  rw [refPower_P 4 _ (by omega) (by omega) (by omega) (by omega) k hk]
  exact congrArg some (pwZ_nat 4 n)
theorem Q_pos : 0 < Nt.Q := by decide
theorem mod_Q_lt (x : Nat) : x % Nt.Q < 1073741789 := Nat.mod_lt _ Q_pos
end Go.Proofs.YtcnkenknbmmglaaDoor.P
