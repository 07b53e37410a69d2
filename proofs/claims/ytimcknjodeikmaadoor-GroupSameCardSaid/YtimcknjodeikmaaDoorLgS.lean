/- Layer 8: GroupSame. -/
import Derived.Test.YtimcknjodeikmaaDoorLg2
import Derived.Test.YtimcknjodeikmaaDoorPx17
set_option linter.unusedSimpArgs false
set_option linter.unusedVariables false
namespace Go.Proofs.YtimcknjodeikmaaDoor.P
open Go Go.RowKit Go.Proofs.YtimcknjodeikmaaDoorW.PrintWords Go.Proofs.YtimcknjodeikmaaDoorW.PrintLast Go.Proofs.YtimcknjodeikmaaDoorW.PrintMore

/-- A proof of equal exponents that was made is right. -/
theorem eqlV_made {b o key once : Nat} (hb : b < 2147483579) (hB : Nt.El b) (b1 : b ≠ 1) (ho : o < 2147483579) (hO : Nt.El o) (o1 : o ≠ 1) (k0 : 0 < key) (k1 : key < 1073741789) (r0 : 0 < once) (r1 : once < 1073741789) :
    ∃ c s, sameV (b : Int) (o : Int) (key : Int) (once : Int) = (c, s, 0) ∧ expB c = true ∧ expB s = true ∧ eqlV (b : Int) ((b ^ key % Nt.P : Nat) : Int) (o : Int) ((o ^ key % Nt.P : Nat) : Int) c s = (true, 0) := by
  have e : sameV (b : Int) (o : Int) (key : Int) (once : Int) = (chal (sameL b o key once), okV once (chal (sameL b o key once)) key, 0) := by
    unfold sameV
    rw [baseB_nat hb hB b1, baseB_nat ho hO o1, secB_nat k0 k1, secB_nat r0 r1]
    rfl
  obtain ⟨hc, hl⟩ := chal_nat (sameL b o key once)
  refine ⟨_, _, e, expB_of (chal_lt _).1 (chal_lt _).2, expB_of (okV_lt _ _ _).1 (okV_lt _ _ _).2, ?_⟩
  unfold eqlV
  rw [baseB_nat hb hB b1, baseB_nat ho hO o1, memB_mod (hB.pow key), memB_mod (hO.pow key), expB_of (chal_lt _).1 (chal_lt _).2, expB_of (okV_lt _ _ _).1 (okV_lt _ _ _).2]
  simp only [Bool.and_self, if_true]
  congr 1
  rw [beq_iff_eq]
  congr 1
  unfold eqlL
  have hS : sameL (b : Int) (o : Int) (key : Int) (once : Int) = [(b : Int), ((b ^ key % Nt.P : Nat) : Int), (o : Int), ((o ^ key % Nt.P : Nat) : Int), ((b ^ once % Nt.P : Nat) : Int), ((o ^ once % Nt.P : Nat) : Int)] := by
    unfold sameL
    rw [pwZ_nat, pwZ_nat, pwZ_nat, pwZ_nat]
  generalize hcc : chal (sameL (b : Int) (o : Int) (key : Int) (once : Int)) = C at *
  rw [hc, okV_nat, back_core hB hl, back_core hO hl, hS]
theorem same_ev (a0 a1 a2 a3 a4 : Int) (w0 : (Lit.int .u64 a0).wf = true) (w1 : (Lit.int .u64 a1).wf = true) (w2 : (Lit.int .u64 a2).wf = true) (w3 : (Lit.int .u64 a3).wf = true) (w4 : (Lit.int .u64 a4).wf = true) :
    ∃ K, ∀ k, K ≤ k → cohousinglaw08_GroupSame.f k a0 a1 a2 a3 a4 = some true := by
  refine ⟨40000, fun k hk => ?_⟩
  obtain ⟨k, rfl⟩ : ∃ m, k = m + 1 := ⟨k - 1, by omega⟩
  obtain ⟨p0, p1⟩ := sec_lt a0
  obtain ⟨q0, q1⟩ := sec_lt a1
  obtain ⟨x0, x1⟩ := sec_lt a2
  obtain ⟨r0, r1⟩ := sec_lt a3
  obtain ⟨m0, m1⟩ := sec_lt a4
  unfold cohousinglaw08_GroupSame.f
  rw [head_k _ (by omega), refSecretOf_f a0 w0, refSecretOf_f a1 w1, refSecretOf_f a2 w2, refSecretOf_f a3 w3]
  simp only [obs]
  rw [refPub_f _ p1 _ (by omega), refPub_f _ q1 _ (by omega)]
  have hb := pub_lt (sec a0)
  have hB := pub_el (sec a0)
  have b1 := pub_ne p0 p1
  have ho := pub_lt (sec a1)
  have hO := pub_el (sec a1)
  have o1 := pub_ne q0 q1
  generalize pub (sec a0) = b at *
  generalize pub (sec a1) = o at *
  generalize sec a2 = x at *
  generalize sec a3 = r at *
  simp only [obs]
  rw [pow_pw hB x1 _ (by omega) hb, pow_pw hO x1 _ (by omega) ho]
  simp only [obs]
  obtain ⟨c, s, hs, ec, es, he⟩ := eqlV_made hb hB b1 ho hO o1 x0 x1 r0 r1
  rw [same_f _ _ _ _ _ (by omega), hs]
  simp only [obs, if_true]
  rw [equal_f _ _ _ _ _ _ _ (by omega), he]
  simp only [obs, if_true, Bool.not_true]
  simp only [cohousinglaw08_GroupSame.j0, Bool.false_eq_true, if_false]
  have hsl := expB_lt es
  rw [refSecretOf_f a4 w4]
  simp only [obs]
  generalize sec a4 = mo at *
  rw [wrap_id (by omega) (by omega), refRest_f _ (by omega) (by omega)]
  simp only [obs]
  have et : expB ((s + (mo : Int)) % 1073741789) = true := expB_of (by omega) (by omega)
  generalize (s + (mo : Int)) % 1073741789 = t at *
  have hX := memB_mod (hB.pow x)
  have hY := memB_mod (hO.pow x)
  rw [equal_f _ _ _ _ _ _ _ (by omega), refBack_f _ _ _ _ (by omega) hX ec et _ (by omega), refBack_f _ _ _ _ (by omega) hY ec et _ (by omega)]
  have hbm := (memB_nat b).2 ⟨hb, hB⟩
  have hom := (memB_nat o).2 ⟨ho, hO⟩
  have hok := eqlL_ok hbm hX hom hY c t
  simp only [obs, if_true]
  unfold eqlV
  rw [baseB_nat hb hB b1, baseB_nat ho hO o1, hX, hY, ec, et]
  simp only [Bool.and_self, if_true]
  have hch := refChallenge_f (eqlL b ((b ^ x % Nt.P : Nat) : Int) o ((o ^ x % Nt.P : Nat) : Int) c t) (by simp [eqlL]) hok k (by simp [eqlL]; omega)
  unfold eqlL at hch ⊢
  rw [hch]
  simp
end Go.Proofs.YtimcknjodeikmaaDoor.P
