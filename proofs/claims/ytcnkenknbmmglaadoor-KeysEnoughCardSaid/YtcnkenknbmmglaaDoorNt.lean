/- Numbers: Fermat's little theorem, that Q is prime, and powers modulo P. No program in sight. -/
set_option linter.unusedSimpArgs false
set_option linter.unusedVariables false
namespace Go.Proofs.YtcnkenknbmmglaaDoor.Nt

/-- The binomial coefficients. -/
def ch : Nat → Nat → Nat
  | _, 0 => 1
  | 0, _ + 1 => 0
  | n + 1, k + 1 => ch n k + ch n (k + 1)
theorem ch_zero (n : Nat) : ch n 0 = 1 := by cases n <;> rfl
theorem ch_lt : ∀ n k, n < k → ch n k = 0
  | 0, k + 1, _ => rfl
  | n + 1, k + 1, h => by
    show ch n k + ch n (k + 1) = 0
    rw [ch_lt n k (by omega), ch_lt n (k + 1) (by omega)]
theorem ch_self : ∀ n, ch n n = 1
  | 0 => rfl
  | n + 1 => by
    show ch n n + ch n (n + 1) = 1
    rw [ch_self n, ch_lt n (n + 1) (by omega)]
theorem ch_mul : ∀ n k, (k + 1) * ch (n + 1) (k + 1) = (n + 1) * ch n k
  | 0, 0 => rfl
  | 0, k + 1 => by
    show (k + 2) * (ch 0 (k + 1) + ch 0 (k + 2)) = 1 * ch 0 (k + 1)
    simp [ch]
  | n + 1, 0 => by
    have h := ch_mul n 0
    show 1 * (ch (n + 1) 0 + ch (n + 1) 1) = (n + 2) * ch (n + 1) 0
    simp only [ch_zero, Nat.zero_add, Nat.one_mul, Nat.mul_one] at h ⊢
    omega
  | n + 1, k + 1 => by
    have h1 := ch_mul n k
    have h2 := ch_mul n (k + 1)
    show (k + 2) * (ch (n + 1) (k + 1) + ch (n + 1) (k + 2)) = (n + 2) * ch (n + 1) (k + 1)
    have h3 : ch (n + 1) (k + 1) = ch n k + ch n (k + 1) := rfl
    have e1 : (k + 2) * ch (n + 1) (k + 1) = (k + 1) * ch (n + 1) (k + 1) + ch (n + 1) (k + 1) := Nat.succ_mul _ _
    have e2 : (n + 2) * ch (n + 1) (k + 1) = (n + 1) * ch (n + 1) (k + 1) + ch (n + 1) (k + 1) := Nat.succ_mul _ _
    have e3 : (n + 1) * ch (n + 1) (k + 1) = (n + 1) * ch n k + (n + 1) * ch n (k + 1) := by rw [h3, Nat.mul_add]
    rw [Nat.mul_add, e1, e2, e3, h1, h2]
    omega
/-- Sums of the first terms of a binomial. -/
def bs (a n : Nat) : Nat → Nat
  | 0 => 0
  | m + 1 => bs a n m + ch n m * a ^ m
theorem bs_succ (a n : Nat) : ∀ m, bs a (n + 1) (m + 1) = bs a n (m + 1) + a * bs a n m
  | 0 => by simp [bs, ch_zero]
  | m + 1 => by
    show bs a (n + 1) (m + 1) + ch (n + 1) (m + 1) * a ^ (m + 1) = bs a n (m + 1) + ch n (m + 1) * a ^ (m + 1) + a * (bs a n m + ch n m * a ^ m)
    rw [bs_succ a n m]
    show _ + (ch n m + ch n (m + 1)) * a ^ (m + 1) = _
    have e : a * (ch n m * a ^ m) = ch n m * a ^ (m + 1) := by rw [Nat.pow_succ, Nat.mul_comm a, Nat.mul_assoc]
    rw [Nat.add_mul, Nat.mul_add, e]
    omega
theorem bs_all (a : Nat) : ∀ n, bs a n (n + 1) = (a + 1) ^ n
  | 0 => by simp [bs, ch]
  | n + 1 => by
    rw [bs_succ a n (n + 1), bs_all a n]
    show bs a n (n + 1) + ch n (n + 1) * a ^ (n + 1) + _ = _
    rw [bs_all a n, ch_lt n (n + 1) (by omega), Nat.zero_mul, Nat.add_zero, Nat.pow_succ, Nat.mul_add, Nat.mul_one, Nat.mul_comm a]
    omega

/-- A prime. -/
def Pr (p : Nat) : Prop := 2 ≤ p ∧ ∀ d, d ∣ p → d = 1 ∨ d = p
theorem Pr.coprime {p k : Nat} (h : Pr p) (hk : ¬ p ∣ k) : Nat.Coprime p k := by
  rcases h.2 (Nat.gcd p k) (Nat.gcd_dvd_left p k) with h1 | h1
  · exact h1
  · exact absurd (h1 ▸ Nat.gcd_dvd_right p k) hk
theorem Pr.dvd_mul {p a b : Nat} (h : Pr p) (hd : p ∣ a * b) (ha : ¬ p ∣ a) : p ∣ b :=
  (h.coprime ha).dvd_of_dvd_mul_left hd
theorem Pr.ch {p k : Nat} (h : Pr p) (h0 : 0 < k) (hk : k < p) : p ∣ ch p k := by
  obtain ⟨p, rfl⟩ : ∃ q, p = q + 1 := ⟨p - 1, by have := h.1; omega⟩
  obtain ⟨k, rfl⟩ : ∃ q, k = q + 1 := ⟨k - 1, by omega⟩
  exact h.dvd_mul ⟨_, ch_mul p k⟩ fun hd => by have := Nat.le_of_dvd (by omega) hd; omega
theorem Pr.bs {p : Nat} (h : Pr p) (a : Nat) : ∀ m, m < p → Nt.bs a p (m + 1) % p = 1
  | 0, _ => by
    have := h.1
    simp [Nt.bs, ch_zero]
    exact Nat.mod_eq_of_lt (by omega)
  | m + 1, hm => by
    show (Nt.bs a p (m + 1) + Nt.ch p (m + 1) * a ^ (m + 1)) % p = 1
    obtain ⟨c, hc⟩ := h.ch (show 0 < m + 1 by omega) hm
    rw [hc, Nat.mul_assoc, Nat.add_mul_mod_self_left]
    exact h.bs a m (by omega)
theorem Pr.succ {p : Nat} (h : Pr p) (a : Nat) : (a + 1) ^ p % p = (a ^ p + 1) % p := by
  rw [← bs_all a p]
  show (Nt.bs a p p + Nt.ch p p * a ^ p) % p = _
  obtain ⟨q, hq⟩ : ∃ q, p = q + 1 := ⟨p - 1, by have := h.1; omega⟩
  have hb := h.bs a q (by omega)
  rw [← hq] at hb
  rw [ch_self, Nat.one_mul, Nat.add_mod, hb, Nat.add_mod_mod, Nat.add_comm]
theorem Pr.fermat {p : Nat} (h : Pr p) : ∀ a, a ^ p % p = a % p
  | 0 => by rw [Nat.zero_pow (by have := h.1; omega)]
  | a + 1 => by rw [h.succ a, Nat.add_mod, h.fermat a, ← Nat.add_mod]
theorem Pr.inverse {p : Nat} (h : Pr p) {a : Nat} (ha : ¬ p ∣ a) : a * a ^ (p - 2) % p = 1 := by
  have h2 := h.1
  have e : a ^ p = a * (a * a ^ (p - 2)) := by
    rw [← Nat.pow_succ', ← Nat.pow_succ', show (p - 2).succ.succ = p from by omega]
  have hf := h.fermat a
  rw [e] at hf
  have hpos : 0 < a := by
    rcases Nat.eq_zero_or_pos a with rfl | h0
    · exact absurd (Nat.dvd_zero p) ha
    · exact h0
  have h1 : 1 ≤ a * a ^ (p - 2) := Nat.mul_pos hpos (Nat.pow_pos hpos)
  have hd : p ∣ a * (a * a ^ (p - 2) - 1) := by
    rw [Nat.mul_sub, Nat.mul_one]
    exact Nat.dvd_of_mod_eq_zero (Nat.sub_mod_eq_zero_of_mod_eq hf)
  obtain ⟨c, hc⟩ := h.dvd_mul hd ha
  have : a * a ^ (p - 2) = p * c + 1 := by omega
  rw [this, Nat.mul_add_mod, Nat.mod_eq_of_lt h2]

/-- No divisor among n numbers from lo on. -/
def noDiv (p lo : Nat) : Nat → Bool
  | 0 => true
  | n + 1 => (p % (lo + n) != 0) && noDiv p lo n
theorem noDiv_at {p lo : Nat} : ∀ n, noDiv p lo n = true → ∀ d, lo ≤ d → d < lo + n → p % d ≠ 0
  | 0, _, d, h1, h2 => by omega
  | n + 1, h, d, h1, h2 => by
    simp only [noDiv, Bool.and_eq_true, bne_iff_ne] at h
    by_cases e : d = lo + n
    · rw [e]; exact h.1
    · exact noDiv_at n h.2 d h1 (by omega)
theorem pr_of {p r : Nat} (h2 : 2 ≤ p) (hr : p < r * r) (h : ∀ d, 2 ≤ d → d < r → p % d ≠ 0) : Pr p := by
  refine ⟨h2, fun d hd => ?_⟩
  obtain ⟨e, he⟩ := hd
  have hd0 : d ≠ 0 := fun h => by subst h; omega
  have he0 : e ≠ 0 := fun h => by subst h; omega
  by_cases h1 : d = 1
  · exact .inl h1
  by_cases h3 : e = 1
  · exact .inr (by rw [he, h3, Nat.mul_one])
  exfalso
  by_cases h4 : d < r
  · exact h d (by omega) h4 (by rw [he, Nat.mul_mod_right])
  · by_cases h5 : e < r
    · exact h e (by omega) h5 (by rw [he, Nat.mul_mod_left])
    · have := Nat.mul_le_mul (Nat.le_of_not_lt h4) (Nat.le_of_not_lt h5)
      omega
def Q : Nat := 1073741789
def P : Nat := 2147483579
theorem q0 : noDiv 1073741789 2 4096 = true := by decide +kernel
theorem q1 : noDiv 1073741789 4098 4096 = true := by decide +kernel
theorem q2 : noDiv 1073741789 8194 4096 = true := by decide +kernel
theorem q3 : noDiv 1073741789 12290 4096 = true := by decide +kernel
theorem q4 : noDiv 1073741789 16386 4096 = true := by decide +kernel
theorem q5 : noDiv 1073741789 20482 4096 = true := by decide +kernel
theorem q6 : noDiv 1073741789 24578 4096 = true := by decide +kernel
theorem q7 : noDiv 1073741789 28674 4096 = true := by decide +kernel
theorem prQ : Pr Q := pr_of (r := 32768) (by decide) (by decide) fun d h1 h2 => by
  by_cases c1 : d < 4098
  · exact noDiv_at _ q0 d (by omega) (by omega)
  by_cases c2 : d < 8194
  · exact noDiv_at _ q1 d (by omega) (by omega)
  by_cases c3 : d < 12290
  · exact noDiv_at _ q2 d (by omega) (by omega)
  by_cases c4 : d < 16386
  · exact noDiv_at _ q3 d (by omega) (by omega)
  by_cases c5 : d < 20482
  · exact noDiv_at _ q4 d (by omega) (by omega)
  by_cases c6 : d < 24578
  · exact noDiv_at _ q5 d (by omega) (by omega)
  by_cases c7 : d < 28674
  · exact noDiv_at _ q6 d (by omega) (by omega)
  exact noDiv_at _ q7 d (by omega) (by omega)

/-- An element's Q-th power is 1. -/
def El (a : Nat) : Prop := a ^ Q % P = 1
theorem one_lt_P : 1 < P := by decide
theorem pow_one_of {a n m : Nat} (h : a ^ n % P = 1) : a ^ (n * m) % P = 1 := by
  rw [Nat.pow_mul, Nat.pow_mod, h, Nat.one_pow]
  exact Nat.mod_eq_of_lt one_lt_P
theorem El.pow_add {a : Nat} (h : El a) (x m : Nat) : a ^ (x + Q * m) % P = a ^ x % P := by
  rw [Nat.pow_add, Nat.mul_mod, pow_one_of h, Nat.mul_one, Nat.mod_mod]
theorem El.pow_mod {a : Nat} (h : El a) (x : Nat) : a ^ (x % Q) % P = a ^ x % P := by
  conv => rhs; rw [← Nat.mod_add_div x Q]
  exact (h.pow_add _ _).symm
theorem El.mod {a : Nat} (h : El a) : El (a % P) := by
  unfold El
  rw [← Nat.pow_mod]
  exact h
theorem El.of_mod {a : Nat} (h : El (a % P)) : El a := by
  unfold El at *
  rwa [← Nat.pow_mod] at h
theorem El.mul {a b : Nat} (h : El a) (k : El b) : El (a * b) := by
  unfold El at *
  rw [Nat.mul_pow, Nat.mul_mod, h, k]
  exact Nat.mod_eq_of_lt one_lt_P
theorem El.pow {a : Nat} (h : El a) (x : Nat) : El (a ^ x) := by
  unfold El at *
  rw [← Nat.pow_mul, Nat.mul_comm]
  exact pow_one_of h
theorem El.pos {a : Nat} (h : El a) : 0 < a % P := by
  rcases Nat.eq_zero_or_pos (a % P) with h0 | h0
  · unfold El at h
    rw [Nat.pow_mod, h0, Nat.zero_pow (by decide)] at h
    exact absurd h (by decide)
  · exact h0
/-- A power of an element that is 1, with an exponent that Q does not divide: the element is 1. -/
theorem El.one_of {a k : Nat} (h : El a) (hk : ¬ Q ∣ k) (h1 : a ^ k % P = 1) : a % P = 1 := by
  have hi := prQ.inverse hk
  have h2 := pow_one_of (m := k ^ (Q - 2)) h1
  rw [← h.pow_mod, hi, Nat.pow_one] at h2
  exact h2
/-- Powers of an element other than 1 are equal only if their exponents are, modulo Q. -/
theorem El.inj {a x y : Nat} (h : El a) (ha : a % P ≠ 1) (hxy : a ^ x % P = a ^ y % P) : x % Q = y % Q := by
  have key : ∀ x y, x ≤ y → a ^ x % P = a ^ y % P → x % Q = y % Q := by
    intro x y hle he
    by_cases hd : Q ∣ y - x
    · obtain ⟨c, hc⟩ := hd
      rw [show y = x + Q * c from by omega, Nat.add_mul_mod_self_left]
    · refine absurd (h.one_of hd ?_) ha
      obtain ⟨m, hm⟩ : ∃ m, x ≤ Q * m := ⟨x, Nat.le_mul_of_pos_left _ (by decide)⟩
      have e1 : a ^ (x + (Q * m - x)) % P = 1 := by
        rw [show x + (Q * m - x) = 0 + Q * m from by omega, h.pow_add]
        rfl
      have e2 : a ^ (y + (Q * m - x)) % P = 1 := by
        rw [Nat.pow_add, Nat.mul_mod, ← he, ← Nat.mul_mod, ← Nat.pow_add]
        exact e1
      rw [show y + (Q * m - x) = (y - x) + Q * m from by omega, h.pow_add] at e2
      exact e2
  rcases Nat.le_total x y with hle | hle
  · exact key x y hle hxy
  · exact (key y x hle hxy.symm).symm
/-- Powers by squaring, in few rounds. -/
def sq (m : Nat) : Nat → Nat → Nat → Nat → Nat
  | 0, _, _, out => out
  | k + 1, a, x, out => if x = 0 then out else sq m k (a * a % m) (x / 2) (if x % 2 = 1 then out * a % m else out)
theorem sq_eq (m : Nat) : ∀ k a x out, x < 2 ^ k → sq m k a x out % m = out * a ^ x % m
  | 0, a, x, out, h => by
    obtain rfl : x = 0 := by simpa using h
    simp [sq]
  | k + 1, a, x, out, h => by
    unfold sq
    split
    · next h0 => subst h0; simp
    · have hx : x / 2 < 2 ^ k := by rw [Nat.pow_succ] at h; omega
      rw [sq_eq m k _ _ _ hx]
      have e : a ^ x = a ^ (x % 2) * (a * a) ^ (x / 2) := by
        rw [← Nat.pow_two, ← Nat.pow_mul, ← Nat.pow_add, Nat.mod_add_div]
      rw [Nat.mul_mod, ← Nat.pow_mod, ← Nat.mul_mod]
      split
      · next h1 =>
        rw [e, h1, Nat.pow_one, Nat.mul_mod, Nat.mod_mod, ← Nat.mul_mod, Nat.mul_assoc]
      · next h1 =>
        rw [e, show x % 2 = 0 from by omega, Nat.pow_zero, Nat.one_mul]
theorem G_el : El 4 := by
  have h := sq_eq P 30 4 Q 1 (by decide)
  rw [Nat.one_mul] at h
  show 4 ^ Q % P = 1
  rw [← h]
  decide +kernel
theorem El.pow_ne_one {a k : Nat} (h : El a) (ha : a % P ≠ 1) (h0 : 0 < k) (hk : k < Q) : a ^ k % P ≠ 1 := fun he =>
  ha (h.one_of (fun hd => by have := Nat.le_of_dvd h0 hd; omega) he)
end Go.Proofs.YtcnkenknbmmglaaDoor.Nt
