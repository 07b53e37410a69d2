/- Chapter 40: keys, encrypted votes encrypted anew, told over whole numbers. -/
import Derived.Test.YtkaebblbmoolaaaDoorPh
import Derived.Test.YtkaebblbmoolaaaDoorPx3
set_option linter.unusedSimpArgs false
set_option linter.unusedVariables false
namespace Go.Proofs.YtkaebblbmoolaaaDoor.P
open Go Go.RowKit Go.Proofs.YtkaebblbmoolaaaDoorW.PrintWords Go.Proofs.YtkaebblbmoolaaaDoorW.PrintLast Go.Proofs.YtkaebblbmoolaaaDoorW.PrintMore

/-- 'Option.bind_some', not by computation (the kernel may compute the wrong side). -/
theorem obs {α β : Type} (a : α) (f : α → Option β) : (some a).bind f = f a := (Option.bind_some a f).trans (Eq.refl _)
theorem pwZ_nat (a x : Nat) : pwZ (a : Int) (x : Int) = ((a ^ x % Nt.P : Nat) : Int) := by
  unfold pwZ pwM
  rw [Int.toNat_natCast, Int.toNat_natCast]
theorem memB_nat (a : Nat) : memB (a : Int) = true ↔ a < 2147483579 ∧ Nt.El a := by
  unfold memB
  rw [show (1073741789 : Int) = ((Nt.Q : Nat) : Int) from rfl, pwZ_nat a Nt.Q]
  simp only [Bool.and_eq_true, decide_eq_true_eq, beq_iff_eq]
  constructor
  · rintro ⟨h0, h1, h2⟩
    exact ⟨by omega, by unfold Nt.El; exact Int.ofNat.inj h2⟩
  · rintro ⟨h1, h2⟩
    have hp := h2.pos
    rw [Nat.mod_eq_of_lt (show a < Nt.P from h1)] at hp
    exact ⟨by omega, by omega, congrArg Int.ofNat h2⟩
theorem memB_mod {a : Nat} (h : Nt.El a) : memB ((a % Nt.P : Nat) : Int) = true :=
  (memB_nat _).2 ⟨Nat.mod_lt _ (by decide), h.mod⟩
/-- An element is a natural number. -/
theorem memB_el {a : Int} (h : memB a = true) : ∃ n : Nat, a = n ∧ n < 2147483579 ∧ Nt.El n := by
  have := memB_lt h
  obtain ⟨n, rfl⟩ := Int.eq_ofNat_of_zero_le (show 0 ≤ a by omega)
  exact ⟨n, rfl, (memB_nat n).1 h⟩
theorem expB_el {x : Int} (h : expB x = true) : ∃ n : Nat, x = n ∧ n < Nt.Q := by
  have := expB_lt h
  obtain ⟨n, rfl⟩ := Int.eq_ofNat_of_zero_le (show 0 ≤ x by omega)
  exact ⟨n, rfl, by unfold Nt.Q; omega⟩
theorem memB_pw' {a : Int} (h : memB a = true) (x : Int) (hx : 0 ≤ x) : memB (pwZ a x) = true := by
  obtain ⟨n, rfl, _, hn⟩ := memB_el h
  obtain ⟨m, rfl⟩ := Int.eq_ofNat_of_zero_le hx
  rw [pwZ_nat]
  exact memB_mod (hn.pow m)
theorem memB_4 : memB 4 = true := (memB_nat 4).2 ⟨by decide, Nt.G_el⟩
theorem mul_nat (a b : Nat) : ((a : Int) * (b : Int) % 2147483579) = ((a * b % Nt.P : Nat) : Int) := by
  rw [show (2147483579 : Int) = ((Nt.P : Nat) : Int) from rfl, Int.natCast_emod, Int.natCast_mul]
theorem memB_mul {a b : Int} (ha : memB a = true) (hb : memB b = true) : memB (a * b % 2147483579) = true := by
  obtain ⟨n, rfl, _, hn⟩ := memB_el ha
  obtain ⟨m, rfl, _, hm⟩ := memB_el hb
  rw [mul_nat]
  exact memB_mod (hn.mul hm)

/-- A key. -/
def keyB (k : Int) : Bool := k != 1 && memB k
theorem keyB_mem {k : Int} (h : keyB k = true) : memB k = true := by simp only [keyB, Bool.and_eq_true] at h; exact h.2
theorem right_f (a : Int) : ballot_key_right.f a = some (keyB a) := by
  unfold ballot_key_right.f keyB
  rw [member_f]
  simp only [obs]
  by_cases h : a = 1
  · rw [if_pos h]; simp [h]
  · rw [if_neg h]
    have : (a != 1) = true := by simpa using h
    rw [this, Bool.true_and]
/-- Encrypted anew. -/
def nA (a r : Int) : Int := a * pwZ 4 r % 2147483579
def nB (k b r : Int) : Int := b * pwZ k r % 2147483579
def okN (k a b r : Int) : Bool := keyB k && (expB r && (memB a && memB b))
theorem okN_all {k a b r : Int} (h : okN k a b r = true) : keyB k = true ∧ expB r = true ∧ memB a = true ∧ memB b = true := by
  simpa only [okN, Bool.and_eq_true] using h
theorem nA_mem {a r : Int} (ha : memB a = true) (hr : expB r = true) : memB (nA a r) = true := memB_mul ha (memB_pw' memB_4 r (expB_lt hr).1)
theorem nB_mem {k b r : Int} (hk : keyB k = true) (hb : memB b = true) (hr : expB r = true) : memB (nB k b r) = true := memB_mul hb (memB_pw' (keyB_mem hk) r (expB_lt hr).1)
def anewV (k a b r : Int) : Int × Int × Bool := if okN k a b r then (nA a r, nB k b r, true) else (0, 0, false)
theorem not0 : memB 0 = false := rfl
theorem anew_f (k a b r : Int) : ballot_key_anew.f k a b r = some (anewV k a b r) := by
  unfold ballot_key_anew.f anewV
  rw [exp_f, exp_f]
  simp only [obs]
  rw [mul_f, mul_f, right_f]
  simp only [obs]
  cases hk : keyB k with
  | false => simp [okN, hk]
  | true =>
    rw [if_pos rfl]
    have hkm := keyB_mem hk
    unfold expV
    rw [memB_4, hkm]
    cases hr : expB r with
    | false => simp [okN, hr]
    | true =>
      simp only [Bool.and_self, if_true]
      unfold mulV
      rw [memB_pw' memB_4 r (expB_lt hr).1, memB_pw' hkm r (expB_lt hr).1]
      cases ha : memB a with
      | false => simp [okN, ha]
      | true =>
        cases hb : memB b with
        | false => simp [okN, hb]
        | true => simp [okN, ha, hb, hk, hr, nA, nB]
/-- A vote is another one, encrypted anew. -/
def conB (k a b a' b' r : Int) : Bool := okN k a b r && (nA a r == a' && nB k b r == b')
theorem connects_f (k a b a' b' r : Int) : ballot_key_connects.f k a b a' b' r = some (conB k a b a' b' r) := by
  unfold ballot_key_connects.f
  rw [anew_f]
  simp only [obs]
  unfold anewV conB
  cases h : okN k a b r with
  | false => simp
  | true => simp
end Go.Proofs.YtkaebblbmoolaaaDoor.P
