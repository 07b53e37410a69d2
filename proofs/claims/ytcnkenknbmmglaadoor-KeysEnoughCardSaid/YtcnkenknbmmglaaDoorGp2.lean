/- Challenges, signatures (out of chapter 8's texts). -/
import Derived.Test.YtcnkenknbmmglaaDoorGp1
import Derived.Test.YtcnkenknbmmglaaDoorXints
import Derived.Test.YtcnkenknbmmglaaDoorPx5
set_option linter.unusedSimpArgs false
set_option linter.unusedVariables false
namespace Go.Proofs.YtcnkenknbmmglaaDoor.P
open Go Go.RowKit Go.Proofs.YtcnkenknbmmglaaDoorW.PrintWords Go.Proofs.YtcnkenknbmmglaaDoorW.PrintLast Go.Proofs.YtcnkenknbmmglaaDoorW.PrintMore
/-- The challenge of numbers. -/
def chal (l : List Int) : Int := sumB (txt l) % 1073741789
theorem sumB_range (l : List Int) : 0 ≤ sumB l ∧ sumB l < 18446744073709551616 := by
  have key : ∀ (l : List Int) (h : Int), 0 ≤ h ∧ h < 18446744073709551616 → 0 ≤ l.foldl stepB h ∧ l.foldl stepB h < 18446744073709551616 := by
    intro l
    induction l with
    | nil => exact fun h hh => hh
    | cons x l ih =>
      intro h hh
      refine ih _ ?_
      unfold stepB
      generalize Go.bits .xor .u64 h (IntKind.u64.wrap x) * 1099511628211 = z
      simp [IntKind.wrap, IntKind.bits, IntKind.signed]
      omega
  exact key l _ (by decide)
theorem chal_lt (l : List Int) : 0 ≤ chal l ∧ chal l < 1073741789 := by unfold chal; omega
theorem challenge_f (l : List Int) (hl : l.length ≤ 1000000) (hok : ∀ x ∈ l, okInt x = true) : group_challenge.f l = some (chal l) := by
  have hr := sumB_range (txt l)
  unfold group_challenge.f digest_Ints.f chal
  rw [if_pos ⟨List.all_eq_true.2 hok, by omega⟩]
  simp only [Option.bind_some]
  rw [tmod_nat _ _ hr.1 (by omega), wrap_id (by omega) (by omega)]
theorem okInt_of {x : Int} (h0 : -9223372036854775808 ≤ x) (h1 : x ≤ 9223372036854775807) : okInt x = true := by
  simp only [okInt, Bool.and_eq_true, decide_eq_true_eq]; exact ⟨h0, h1⟩
theorem ok_pw (a x : Int) : okInt (pwZ a x) = true := by have := pwZ_lt a x; exact okInt_of (by omega) (by omega)
/-- What a message may be. -/
def Msg (l : List Int) : Prop := l.length ≤ 1000 ∧ ∀ x ∈ l, okInt x = true
theorem ok_cons {x : Int} {l : List Int} (hx : okInt x = true) (hl : ∀ y ∈ l, okInt y = true) : ∀ y ∈ x :: l, okInt y = true := fun y hy => by
  rcases List.mem_cons.1 hy with rfl | hy
  · exact hx
  · exact hl y hy
def okV (once c key : Int) : Int := (once + c * key) % 1073741789
theorem ok_f {once c key : Int} (ho : 0 ≤ once ∧ once < 1073741789) (hc : 0 ≤ c ∧ c < 1073741789) (hk : 0 ≤ key ∧ key < 1073741789) : Int.tmod (wrap64 (once + wrap64 (c * key))) 1073741789 = okV once c key := by
  obtain ⟨h0, h1⟩ := mul_lt31 (a := c) (b := key) (by omega) (by omega) (by omega) (by omega)
  unfold okV
  rw [wrap_id (a := c * key) (by omega) (by omega), wrap_id (by omega) (by omega), tmod_nat _ _ (by omega) (by omega)]
def signV (key once : Int) (l : List Int) : Int × Int × Int := if secB key && secB once then (chal (pwZ 4 once :: pwZ 4 key :: l), okV once (chal (pwZ 4 once :: pwZ 4 key :: l)) key, 0) else (0, 0, 1)
theorem msg2 {l : List Int} (h : Msg l) {a b : Int} (ha : okInt a = true) (hb : okInt b = true) : ∀ x ∈ a :: b :: l, okInt x = true := ok_cons ha (ok_cons hb h.2)
theorem sign_f (key once : Int) (l : List Int) (h : Msg l) (k : Nat) (hk : 10 ≤ k) : group_Sign.f k key once l = some (signV key once l) := by
  obtain ⟨k, rfl⟩ : ∃ m, k = m + 1 := ⟨k - 1, by omega⟩
  have hl := h.1
  unfold group_Sign.f signV
  simp only [fits1, Option.bind_some, group_Sign.j0]
  cases hs : secB key with
  | false => simp
  | true =>
    cases ho : secB once with
    | false => simp
    | true =>
      have q1 := secB_lt hs
      have q2 := secB_lt ho
      simp only [Bool.not_true, Bool.false_eq_true, if_false, if_true, Bool.and_self]
      rw [power_f 4 once (by omega) (by omega) (by omega) (by omega), power_f 4 key (by omega) (by omega) (by omega) (by omega)]
      simp only [Option.bind_some, List.length_cons, List.length_nil]
      rw [if_pos (by omega)]
      show ((group_challenge.f (pwZ 4 once :: pwZ 4 key :: l)).bind _) = _
      rw [challenge_f _ (by simp only [List.length_cons]; omega) (msg2 h (ok_pw _ _) (ok_pw _ _))]
      have hc := chal_lt (pwZ 4 once :: pwZ 4 key :: l)
      simp only [Option.bind_some, group_answer.f]
      rw [ok_f (by omega) hc (by omega)]
/-- b ^ s * a ^ (Q - c). -/
def backV (b a c s : Int) : Int := pwZ b s * pwZ a (1073741789 - c) % 2147483579
theorem backV_lt (b a c s : Int) : 0 ≤ backV b a c s ∧ backV b a c s < 2147483579 := by unfold backV; omega
theorem ok_back (b a c s : Int) : okInt (backV b a c s) = true := by have := backV_lt b a c s; exact okInt_of (by omega) (by omega)
theorem commitment_f (b a c s : Int) (hb : 0 ≤ b ∧ b < 2147483579) (ha : 0 ≤ a ∧ a < 2147483579) (hc : expB c = true) (hs : expB s = true) : group_commitment.f b a c s = some (backV b a c s) := by
  have q1 := expB_lt hc
  have q2 := expB_lt hs
  unfold group_commitment.f backV
  rw [wrap_id (by omega) (by omega), power_f b s (by omega) (by omega) (by omega) (by omega), power_f a _ (by omega) (by omega) (by omega) (by omega)]
  simp only [Option.bind_some, mul_pw]
theorem memB_pw {a : Int} (h : memB a = true) : pwZ a 1073741789 = 1 := by
  simp only [memB, Bool.and_eq_true, decide_eq_true_eq, beq_iff_eq] at h
  exact h.2.2
def verV (pub c s : Int) (l : List Int) : Bool × Int := if memB pub && (expB c && expB s) then (chal (backV 4 pub c s :: pub :: l) == c, 0) else (false, 1)
theorem ok_mem {a : Int} (h : memB a = true) : okInt a = true := by have := memB_lt h; exact okInt_of (by omega) (by omega)
theorem verify_f (pub c s : Int) (l : List Int) (h : Msg l) (k : Nat) (hk : 10 ≤ k) : group_Verify.f k pub c s l = some (verV pub c s l) := by
  obtain ⟨k, rfl⟩ : ∃ m, k = m + 1 := ⟨k - 1, by omega⟩
  have hl := h.1
  unfold group_Verify.f verV
  simp only [member_f, fits0, Option.bind_some, group_Verify.j0]
  cases hm : memB pub with
  | false => simp
  | true =>
    cases hc : expB c with
    | false => simp
    | true =>
      cases hs : expB s with
      | false => simp
      | true =>
        have q1 := memB_lt hm
        simp only [Bool.not_true, Bool.false_eq_true, if_false, if_true, Bool.and_self]
        rw [commitment_f 4 pub c s (by omega) (by omega) hc hs]
        simp only [Option.bind_some, List.length_cons, List.length_nil]
        rw [if_pos (by omega)]
        show ((group_challenge.f (backV 4 pub c s :: pub :: l)).bind _) = _
        rw [challenge_f _ (by simp only [List.length_cons]; omega) (msg2 h (ok_back _ _ _ _) (ok_mem hm))]
        simp only [Option.bind_some]
        rw [Bool.beq_comm]
theorem secB_nat {x : Nat} (h0 : 0 < x) (h1 : x < 1073741789) : secB (x : Int) = true := by
  simp only [secB, Bool.and_eq_true, decide_eq_true_eq]; omega
theorem okV_nat (once c key : Nat) : okV (once : Int) (c : Int) (key : Int) = (((once + c * key) % Nt.Q : Nat) : Int) := by
  unfold okV
  rw [show (1073741789 : Int) = ((Nt.Q : Nat) : Int) from rfl, Int.natCast_emod, Int.natCast_add, Int.natCast_mul]
theorem back_exp {key once c : Nat} (hc : c < Nt.Q) : ((once + c * key) % Nt.Q + key * (Nt.Q - c)) % Nt.Q = once % Nt.Q := by
  have e : c * key + key * (Nt.Q - c) = key * Nt.Q := by
    rw [Nat.mul_comm c, ← Nat.mul_add]
    congr 1
    omega
  rw [Nat.mod_add_mod, Nat.add_assoc, e, Nat.add_mul_mod_self_right]
theorem backV_nat (b a c s : Nat) (hc : c < Nt.Q) : backV (b : Int) (a : Int) (c : Int) (s : Int) = ((b ^ s * a ^ (Nt.Q - c) % Nt.P : Nat) : Int) := by
  unfold backV
  have hq : c < 1073741789 := hc
  rw [show (1073741789 : Int) - (c : Int) = ((Nt.Q - c : Nat) : Int) from by unfold Nt.Q; omega, pwZ_nat, pwZ_nat, Nat.mul_mod (b ^ s)]
  rfl
/-- What a signature began with. -/
theorem back_core {b key once c : Nat} (hb : Nt.El b) (hc : c < Nt.Q) : backV (b : Int) ((b ^ key % Nt.P : Nat) : Int) (c : Int) (((once + c * key) % Nt.Q : Nat) : Int) = ((b ^ once % Nt.P : Nat) : Int) := by
  rw [backV_nat _ _ _ _ hc, Nat.mul_mod, ← Nat.pow_mod, ← Nat.mul_mod, ← Nat.pow_mul, ← Nat.pow_add, ← hb.pow_mod, back_exp hc, hb.pow_mod]
theorem chal_nat (l : List Int) : chal l = ((chal l).toNat : Int) ∧ (chal l).toNat < Nt.Q := by
  have h := chal_lt l
  exact ⟨by omega, by unfold Nt.Q; omega⟩
theorem sign_back (key once : Nat) (l : List Int) : backV 4 (pub key : Int) (chal l) (okV (once : Int) (chal l) (key : Int)) = pwZ 4 (once : Int) := by
  obtain ⟨e, hl⟩ := chal_nat l
  rw [e, okV_nat]
  have h := back_core (b := 4) (key := key) (once := once) Nt.G_el hl
  rw [← pwZ_nat] at h
  exact h
theorem expB_of {x : Int} (h0 : 0 ≤ x) (h1 : x < 1073741789) : expB x = true := by
  simp only [expB, Bool.and_eq_true, decide_eq_true_eq]; exact ⟨h0, h1⟩
theorem okV_lt (once c key : Int) : 0 ≤ okV once c key ∧ okV once c key < 1073741789 := by unfold okV; omega
theorem signV_ok {key once : Nat} (k0 : 0 < key) (k1 : key < 1073741789) (o0 : 0 < once) (o1 : once < 1073741789) (l : List Int) :
    signV (key : Int) (once : Int) l = (chal (pwZ 4 once :: pwZ 4 key :: l), okV once (chal (pwZ 4 once :: pwZ 4 key :: l)) key, 0) := by
  unfold signV
  rw [secB_nat k0 k1, secB_nat o0 o1]
  rfl
theorem pub_pwZ (key : Nat) : pwZ 4 (key : Int) = (pub key : Int) := pwZ_nat 4 key
/-- A signature that was made is right. -/
theorem verV_made {key once : Nat} (k0 : 0 < key) (k1 : key < 1073741789) (o0 : 0 < once) (o1 : once < 1073741789) (l : List Int) :
    verV (pub key : Int) (signV (key : Int) (once : Int) l).1 (signV (key : Int) (once : Int) l).2.1 l = (true, 0) := by
  rw [signV_ok k0 k1 o0 o1]
  simp only
  unfold verV
  rw [(memB_nat _).2 ⟨pub_lt key, pub_el key⟩, expB_of (chal_lt _).1 (chal_lt _).2, expB_of (okV_lt _ _ _).1 (okV_lt _ _ _).2, sign_back, pub_pwZ key]
  simp
end Go.Proofs.YtcnkenknbmmglaaDoor.P
