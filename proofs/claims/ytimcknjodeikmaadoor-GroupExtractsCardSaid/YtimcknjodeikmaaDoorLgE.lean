/- Layer 8: GroupExtracts. -/
import Derived.Test.YtimcknjodeikmaaDoorLg2
import Derived.Test.YtimcknjodeikmaaDoorPx14
set_option linter.unusedSimpArgs false
set_option linter.unusedVariables false
namespace Go.Proofs.YtimcknjodeikmaaDoor.P
open Go Go.RowKit Go.Proofs.YtimcknjodeikmaaDoorW.PrintWords Go.Proofs.YtimcknjodeikmaaDoorW.PrintLast Go.Proofs.YtimcknjodeikmaaDoorW.PrintMore

theorem extracts_core {r c1 c2 k : Nat} (hk : k < Nt.Q) (h1 : c1 < Nt.Q) (h2 : c2 < Nt.Q) (hne : c1 ≠ c2) :
    ((((((r + c1 * k) % Nt.Q : Nat) : Int) - (((r + c2 * k) % Nt.Q : Nat) : Int)) % 1073741789).toNat * ((((c1 : Int) - (c2 : Int)) % 1073741789).toNat) ^ (Nt.Q - 2)) % Nt.Q = k := by
  have hq : (1073741789 : Int) = ((Nt.Q : Nat) : Int) := rfl
  obtain ⟨y, hy⟩ : ∃ y : Nat, ((c1 : Int) - (c2 : Int)) % 1073741789 = (y : Int) := ⟨(((c1 : Int) - (c2 : Int)) % 1073741789).toNat, by omega⟩
  have hyl : y < Nt.Q := by unfold Nt.Q; omega
  have hy0 : y ≠ 0 := fun h0 => by unfold Nt.Q at h1 h2; omega
  have hyd : ¬ Nt.Q ∣ y := fun hd => by have := Nat.le_of_dvd (by omega) hd; omega
  have e : ((((r + c1 * k) % Nt.Q : Nat) : Int) - (((r + c2 * k) % Nt.Q : Nat) : Int)) % 1073741789 = ((y * k % Nt.Q : Nat) : Int) := by
    rw [Int.natCast_emod, Int.natCast_emod, Int.natCast_emod, hq, ← Int.sub_emod, Int.natCast_add, Int.natCast_add, Int.natCast_mul, Int.natCast_mul, Int.natCast_mul, ← hy, hq]
    rw [show (r : Int) + (c1 : Int) * (k : Int) - ((r : Int) + (c2 : Int) * (k : Int)) = ((c1 : Int) - (c2 : Int)) * (k : Int) from by rw [Int.sub_mul]; omega]
    rw [Int.mul_emod ((c1 : Int) - (c2 : Int)) (k : Int), Int.mul_emod (((c1 : Int) - (c2 : Int)) % ((Nt.Q : Nat) : Int)) (k : Int), Int.emod_emod_of_dvd _ (Int.dvd_refl _)]
  rw [e, hy, Int.toNat_natCast, Int.toNat_natCast, over_core hk hyd]
theorem extracts_ev (a0 a1 : Int) (l2 l3 : List Int) (w0 : (Lit.int .u64 a0).wf = true) (w1 : (Lit.int .u64 a1).wf = true) (h2 : ∀ a ∈ l2, (Lit.int .i64 a).wf = true) (b2 : l2.length ≤ 9223372036854775807) (h3 : ∀ a ∈ l3, (Lit.int .i64 a).wf = true) (b3 : l3.length ≤ 9223372036854775807) :
    ∃ K, ∀ k, K ≤ k → cohousinglaw08_GroupExtracts.f k a0 a1 l2 l3 = some true := by
  refine ⟨40000, fun k hk => ?_⟩
  obtain ⟨k, rfl⟩ : ∃ m, k = m + 1 := ⟨k - 1, by omega⟩
  obtain ⟨p0, p1⟩ := sec_lt a0
  obtain ⟨q0, q1⟩ := sec_lt a1
  have m2 := few_msg h2
  have m3 := few_msg h3
  unfold cohousinglaw08_GroupExtracts.f
  rw [head_k _ (by omega), refSecretOf_f a0 w0, refSecretOf_f a1 w1, few_f l2 b2, few_f l3 b3]
  simp only [obs]
  rw [sign_f _ _ _ m2 _ (by omega), sign_f _ _ _ m3 _ (by omega), signV_ok p0 p1 q0 q1, signV_ok p0 p1 q0 q1]
  simp only [obs, if_true]
  generalize sec a0 = x at *
  generalize sec a1 = r at *
  generalize pwZ 4 (r : Int) :: pwZ 4 (x : Int) :: l2.take 20 = L2
  generalize pwZ 4 (r : Int) :: pwZ 4 (x : Int) :: l3.take 20 = L3
  obtain ⟨e2, c2⟩ := chal_nat L2
  obtain ⟨e3, c3⟩ := chal_nat L3
  have x2 := expB_of (chal_lt L2).1 (chal_lt L2).2
  have x3 := expB_of (chal_lt L3).1 (chal_lt L3).2
  have y2 := expB_of (okV_lt (r : Int) (chal L2) (x : Int)).1 (okV_lt _ _ _).2
  have y3 := expB_of (okV_lt (r : Int) (chal L3) (x : Int)).1 (okV_lt _ _ _).2
  simp only [refExponent_f, x2, x3, y2, y3, obs, if_true, Bool.not_true]
  simp only [cohousinglaw08_GroupExtracts.j0, Bool.false_eq_true, if_false, if_true]
  rw [e2, e3, okV_nat, okV_nat]
  generalize (chal L2).toNat = c at *
  generalize (chal L3).toNat = d at *
  by_cases hcd : c = d
  · rw [if_pos (by omega)]
  · rw [if_neg (by omega)]
    have u1 := mod_Q_lt (r + c * x)
    have u2 := mod_Q_lt (r + d * x)
    have hcq : c < 1073741789 := c2
    have hdq : d < 1073741789 := c3
    rw [wrap_id (by omega) (by omega), wrap_id (by omega) (by omega), refRest_f _ (by omega) (by omega), refRest_f _ (by omega) (by omega)]
    simp only [obs]
    rw [refOver_f _ _ (by omega) (by omega) (by omega) (by omega) _ (by omega), extracts_core p1 c2 c3 hcd]
    simp
end Go.Proofs.YtimcknjodeikmaaDoor.P
