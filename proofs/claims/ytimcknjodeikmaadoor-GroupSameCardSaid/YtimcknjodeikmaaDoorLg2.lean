/- Layer 8: signatures and quotients. -/
import Derived.Test.YtimcknjodeikmaaDoorLg1
set_option linter.unusedSimpArgs false
set_option linter.unusedVariables false
namespace Go.Proofs.YtimcknjodeikmaaDoor.P
open Go Go.RowKit Go.Proofs.YtimcknjodeikmaaDoorW.PrintWords Go.Proofs.YtimcknjodeikmaaDoorW.PrintLast Go.Proofs.YtimcknjodeikmaaDoorW.PrintMore

theorem secB_nat {x : Nat} (h0 : 0 < x) (h1 : x < 1073741789) : secB (x : Int) = true := by
  simp only [secB, Bool.and_eq_true, decide_eq_true_eq]; omega
theorem okV_nat (once c key : Nat) : okV (once : Int) (c : Int) (key : Int) = (((once + c * key) % Nt.Q : Nat) : Int) := by
  unfold okV
  rw [show (1073741789 : Int) = ((Nt.Q : Nat) : Int) from rfl, Int.natCast_emod, Int.natCast_add, Int.natCast_mul]
theorem back_exp {key once c : Nat} (hc : c < Nt.Q) : ((once + c * key) % Nt.Q + key * (Nt.Q - c)) % Nt.Q = once % Nt.Q := by
  have e : c * key + key * (Nt.Q - c) = key * Nt.Q := by
    rw [Nat.mul_comm c, ← Nat.mul_add]
    congr 1
    omega
  rw [Nat.mod_add_mod, Nat.add_assoc, e, Nat.add_mul_mod_self_right]
theorem backV_nat (b a c s : Nat) (hc : c < Nt.Q) : backV (b : Int) (a : Int) (c : Int) (s : Int) = ((b ^ s * a ^ (Nt.Q - c) % Nt.P : Nat) : Int) := by
  unfold backV
  have hq : c < 1073741789 := hc
  rw [show (1073741789 : Int) - (c : Int) = ((Nt.Q - c : Nat) : Int) from by unfold Nt.Q; omega, pwZ_nat, pwZ_nat, Nat.mul_mod (b ^ s)]
  rfl
/-- What a signature began with. -/
theorem back_core {b key once c : Nat} (hb : Nt.El b) (hc : c < Nt.Q) : backV (b : Int) ((b ^ key % Nt.P : Nat) : Int) (c : Int) (((once + c * key) % Nt.Q : Nat) : Int) = ((b ^ once % Nt.P : Nat) : Int) := by
  rw [backV_nat _ _ _ _ hc, Nat.mul_mod, ← Nat.pow_mod, ← Nat.mul_mod, ← Nat.pow_mul, ← Nat.pow_add, ← hb.pow_mod, back_exp hc, hb.pow_mod]
theorem chal_nat (l : List Int) : chal l = ((chal l).toNat : Int) ∧ (chal l).toNat < Nt.Q := by
  have h := chal_lt l
  exact ⟨by omega, by unfold Nt.Q; omega⟩
theorem sign_back (key once : Nat) (l : List Int) : backV 4 (pub key : Int) (chal l) (okV (once : Int) (chal l) (key : Int)) = pwZ 4 (once : Int) := by
  obtain ⟨e, hl⟩ := chal_nat l
  rw [e, okV_nat]
  have h := back_core (b := 4) (key := key) (once := once) Nt.G_el hl
  rw [← pwZ_nat] at h
  exact h
theorem expB_of {x : Int} (h0 : 0 ≤ x) (h1 : x < 1073741789) : expB x = true := by
  simp only [expB, Bool.and_eq_true, decide_eq_true_eq]; exact ⟨h0, h1⟩
theorem okV_lt (once c key : Int) : 0 ≤ okV once c key ∧ okV once c key < 1073741789 := by unfold okV; omega
theorem signV_ok {key once : Nat} (k0 : 0 < key) (k1 : key < 1073741789) (o0 : 0 < once) (o1 : once < 1073741789) (l : List Int) :
    signV (key : Int) (once : Int) l = (chal (pwZ 4 once :: pwZ 4 key :: l), okV once (chal (pwZ 4 once :: pwZ 4 key :: l)) key, 0) := by
  unfold signV
  rw [secB_nat k0 k1, secB_nat o0 o1]
  rfl
theorem pub_pwZ (key : Nat) : pwZ 4 (key : Int) = (pub key : Int) := pwZ_nat 4 key
/-- A signature that was made is right. -/
theorem verV_made {key once : Nat} (k0 : 0 < key) (k1 : key < 1073741789) (o0 : 0 < once) (o1 : once < 1073741789) (l : List Int) :
    verV (pub key : Int) (signV (key : Int) (once : Int) l).1 (signV (key : Int) (once : Int) l).2.1 l = (true, 0) := by
  rw [signV_ok k0 k1 o0 o1]
  simp only
  unfold verV
  rw [(memB_nat _).2 ⟨pub_lt key, pub_el key⟩, expB_of (chal_lt _).1 (chal_lt _).2, expB_of (okV_lt _ _ _).1 (okV_lt _ _ _).2, sign_back, pub_pwZ key]
  simp
theorem pow_pw {b x : Nat} (h : Nt.El b) (hx : x < 1073741789) (k : Nat) (hk : 40 ≤ k) (hb : b < 2147483579) : cohousingref08_Power.f k (b : Int) (x : Int) 2147483579 = some (((b ^ x % Nt.P : Nat) : Int)) := by
  rw [refPower_P _ _ (by omega) (by omega) (by omega) (by omega) k hk, pwZ_nat]

/-- Modulo Q, from 0 on. -/
theorem refRest_f (n : Int) (h0 : -4611686018427387904 ≤ n) (h1 : n ≤ 4611686018427387904) : cohousingref08_Rest.f n = some (n % 1073741789) := by
  unfold cohousingref08_Rest.f Y.cohousingref08_Rest.f
  have hb1 : -1073741789 < Int.tmod n 1073741789 := Int.lt_tmod_of_pos _ (by omega)
  have hb2 : Int.tmod n 1073741789 < 1073741789 := Int.tmod_lt_of_pos _ (by omega)
  rw [wrap_id (by omega) (by omega), tmod_nat _ _ (by omega) (by omega)]
  congr 1
  have e : Int.tmod n 1073741789 = n - 1073741789 * Int.tdiv n 1073741789 := by
    have := Int.mul_tdiv_add_tmod n 1073741789
    omega
  rw [e]
  omega
theorem refOver_f (a b : Int) (ha : 0 ≤ a) (ha1 : a < 1073741789) (hb : 0 ≤ b) (hb1 : b < 1073741789) (k : Nat) (hk : 40 ≤ k) : cohousingref08_Over.f k a b = some (((a.toNat * b.toNat ^ (Nt.Q - 2) % Nt.Q : Nat) : Int)) := by
  unfold cohousingref08_Over.f
  rw [refPower_Q b _ hb hb1 (by omega) (by omega) k hk]
  simp only [Option.bind_some]
  have hp := pwM_lt Nt.Q Q_pos b 1073741787
  have hq : (Nt.Q : Int) = 1073741789 := rfl
  rw [mul_mod ha (by omega) hp.1 (by omega) (by omega)]
  congr 1
  obtain ⟨a, rfl⟩ := Int.eq_ofNat_of_zero_le ha
  unfold pwM
  rw [Int.toNat_natCast, ← hq, ← Int.natCast_mul, ← Int.natCast_emod]
  congr 1
  rw [Nat.mul_mod_mod]
  rfl
/-- What is left of a product when it is divided by a factor that Q does not divide. -/
theorem over_core {y k : Nat} (hk : k < Nt.Q) (hy : ¬ Nt.Q ∣ y) : (y * k % Nt.Q) * y ^ (Nt.Q - 2) % Nt.Q = k := by
  have hi := Nt.prQ.inverse hy
  rw [Nat.mod_mul_mod, Nat.mul_comm y k, Nat.mul_assoc, Nat.mul_mod, hi, Nat.mul_one, Nat.mod_mod, Nat.mod_eq_of_lt hk]

end Go.Proofs.YtimcknjodeikmaaDoor.P
