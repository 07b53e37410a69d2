/- Layer 8: GroupHides. -/
import Derived.Test.YtimcknjodeikmaaDoorLg2
import Derived.Test.YtimcknjodeikmaaDoorPx11
set_option linter.unusedSimpArgs false
set_option linter.unusedVariables false
namespace Go.Proofs.YtimcknjodeikmaaDoor.P
open Go Go.RowKit Go.Proofs.YtimcknjodeikmaaDoorW.PrintWords Go.Proofs.YtimcknjodeikmaaDoorW.PrintLast Go.Proofs.YtimcknjodeikmaaDoorW.PrintMore

theorem hides_core {x y r s X d : Nat} (hXm : (X + y) % Nt.Q = x) (hsX : s * d % Nt.Q = X) : 4 ^ x * pub s ^ r % Nt.P = 4 ^ y * pub s ^ ((r + d) % Nt.Q) % Nt.P := by
  have hE := pub_el s
  rw [Nat.mul_mod (4 ^ y), hE.pow_mod, ← Nat.mul_mod]
  unfold pub
  rw [Nat.mul_mod, ← Nat.pow_mod, ← Nat.mul_mod, Nat.mul_mod (4 ^ y), ← Nat.pow_mod, ← Nat.mul_mod]
  rw [← Nat.pow_mul, ← Nat.pow_mul, ← Nat.pow_add, ← Nat.pow_add, ← Nt.G_el.pow_mod, ← Nt.G_el.pow_mod (y + s * (r + d))]
  have e : (x + s * r) % Nt.Q = (y + s * (r + d)) % Nt.Q := by
    rw [Nat.mul_add, show y + (s * r + s * d) = s * d + (y + s * r) from by omega, Nat.add_mod (s * d), hsX, Nat.add_mod_mod, ← Nat.add_assoc, ← hXm]
    rw [Nat.mod_add_mod]
  rw [e]
theorem hides_ev (a0 a1 a2 a3 : Int) (w0 : (Lit.int .u64 a0).wf = true) (w1 : (Lit.int .u64 a1).wf = true) (w2 : (Lit.int .u64 a2).wf = true) (w3 : (Lit.int .u64 a3).wf = true) :
    ∃ K, ∀ k, K ≤ k → cohousinglaw08_GroupHides.f k a0 a1 a2 a3 = some true := by
  refine ⟨100, fun k hk => ?_⟩
  obtain ⟨e1, l1⟩ := exp_u64 w1
  obtain ⟨e2, l2⟩ := exp_u64 w2
  obtain ⟨e3, l3⟩ := exp_u64 w3
  obtain ⟨s0, s1⟩ := sec_lt a0
  unfold cohousinglaw08_GroupHides.f
  rw [head_k _ (by omega), refSecretOf_f a0 w0, e1, e2, e3]
  simp only [obs]
  rw [refPub_f _ s1 k (by omega)]
  have hl := pub_lt (sec a0)
  have hE := pub_el (sec a0)
  have hn := pub_ne s0 s1
  generalize (a1 % 1073741789).toNat = x at *
  generalize (a2 % 1073741789).toNat = y at *
  generalize (a3 % 1073741789).toNat = r at *
  generalize sec a0 = s at *
  generalize hpub : pub s = h at *
  clear e1 e2 e3
  simp only [obs]
  rw [wrap_id (a := (x : Int) - (y : Int)) (by omega) (by omega), refRest_f _ (by omega) (by omega)]
  simp only [obs]
  have hX : 0 ≤ ((x : Int) - (y : Int)) % 1073741789 ∧ ((x : Int) - (y : Int)) % 1073741789 < 1073741789 := by omega
  rw [refOver_f _ _ hX.1 hX.2 (by omega) (by omega) k (by omega)]
  simp only [obs, Int.toNat_natCast]
  -- the difference, divided
  obtain ⟨X, hXe⟩ : ∃ X : Nat, ((x : Int) - (y : Int)) % 1073741789 = (X : Int) := ⟨(((x : Int) - (y : Int)) % 1073741789).toNat, by omega⟩
  rw [hXe, Int.toNat_natCast]
  have hXl : X < Nt.Q := by unfold Nt.Q; omega
  have hXm : (X + y) % Nt.Q = x := by
    unfold Nt.Q
    omega
  have hsd : ¬ Nt.Q ∣ s := fun hd => by have := Nat.le_of_dvd s0 hd; unfold Nt.Q at this; omega
  obtain ⟨d, hd⟩ : ∃ d, d = X * s ^ (Nt.Q - 2) % Nt.Q := ⟨_, rfl⟩
  have hdl : d < 1073741789 := by rw [hd]; exact mod_Q_lt _
  have hsX : s * d % Nt.Q = X := by
    rw [hd, Nat.mul_mod_mod, Nat.mul_comm X, ← Nat.mul_assoc, Nat.mul_mod, Nt.prQ.inverse hsd, Nat.one_mul, Nat.mod_mod, Nat.mod_eq_of_lt hXl]
  rw [← hd]
  clear hd
  rw [wrap_id (by omega) (by omega), refRest_f _ (by omega) (by omega)]
  simp only [obs]
  rw [show ((r : Int) + (d : Int)) % 1073741789 = (((r + d) % Nt.Q : Nat) : Int) from rfl]
  have hol := mod_Q_lt (r + d)
  rw [commit_f _ _ _ k (by omega), commit_f _ _ _ k (by omega), comV_nat hl hE hn l1 l3, comV_nat hl hE hn l2 hol]
  simp only [obs, if_true]
  have key : 4 ^ x * h ^ r % Nt.P = 4 ^ y * h ^ ((r + d) % Nt.Q) % Nt.P := by rw [← hpub]; exact hides_core hXm hsX
  rw [if_pos (show (((4 ^ x * h ^ r % Nt.P : Nat)) : Int) = ((4 ^ y * h ^ ((r + d) % Nt.Q) % Nt.P : Nat) : Int) from by rw [key])]
  by_cases hxy : x = y
  · rw [if_pos (by omega)]
  · rw [if_neg (by omega)]
    congr 1
    rw [bne_iff_ne]
    intro he
    have he' : (r + d) % Nt.Q = r := by omega
    have hd0 : d = 0 := by
      unfold Nt.Q at he'
      omega
    rw [hd0, Nat.mul_zero, Nat.zero_mod] at hsX
    unfold Nt.Q at hXm
    omega

end Go.Proofs.YtimcknjodeikmaaDoor.P
