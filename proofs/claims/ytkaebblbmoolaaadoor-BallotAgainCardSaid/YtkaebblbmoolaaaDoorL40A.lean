/- Chapter 40: BallotAgain. -/
import Derived.Test.YtkaebblbmoolaaaDoorPbE
import Derived.Test.YtkaebblbmoolaaaDoorPx11
set_option linter.unusedSimpArgs false
set_option linter.unusedVariables false
namespace Go.Proofs.YtkaebblbmoolaaaDoor.P
open Go Go.RowKit Go.Proofs.YtkaebblbmoolaaaDoorW.PrintWords Go.Proofs.YtkaebblbmoolaaaDoorW.PrintLast Go.Proofs.YtkaebblbmoolaaaDoorW.PrintMore

theorem tmod_sum2 {p q : Int} (hp : expB p = true) (hq : expB q = true) : Int.tmod (wrap64 (p + q)) 1073741789 = (p + q) % 1073741789 := by
  have h1 := expB_lt hp
  have h2 := expB_lt hq
  rw [wrap_id (by omega) (by omega), tmod_nat _ _ (by omega) (by omega)]
theorem tmod_sum3 {p q r : Int} (hp : expB p = true) (hq : expB q = true) (hr : expB r = true) : Int.tmod (wrap64 (wrap64 (p + q) + r)) 1073741789 = ((p + q) % 1073741789 + r) % 1073741789 := by
  have h1 := expB_lt hp
  have h2 := expB_lt hq
  have h3 := expB_lt hr
  rw [wrap_id (a := p + q) (by omega) (by omega), wrap_id (by omega) (by omega), tmod_nat _ _ (by omega) (by omega)]
  omega
theorem encV_cases (k v r : Int) : (∃ g, memB g = true ∧ ∀ s, encV k v s = againV k 1 g s) ∨ ∀ s, encV k v s = (0, 0, 1) := by
  unfold encV
  by_cases h0 : v = 0
  · exact Or.inl ⟨1, memB_1, fun s => by rw [if_pos h0]⟩
  by_cases h1 : v = 1
  · exact Or.inl ⟨4, memB_4, fun s => by rw [if_neg h0, if_pos h1]⟩
  by_cases h2 : v = 2
  · exact Or.inl ⟨16, memB_16, fun s => by rw [if_neg h0, if_neg h1, if_pos h2]⟩
  exact Or.inr fun s => by rw [if_neg h0, if_neg h1, if_neg h2]
theorem again_j0 (k : Nat) (a0 c0 c1 q r : Int) (hq : expB q = true) (hr : expB r = true) : cohousinglaw40_BallotAgain.j0 (k + 1) a0 true q r c0 c1 = some true := by
  simp only [cohousinglaw40_BallotAgain.j0]
  rw [again_f, obs]
  cases h : okN a0 c0 c1 q with
  | false =>
    rw [againV_no h]
    simp
  | true =>
    rw [againV_ok h]
    simp only [if_true]
    rw [again_f, again_f, tmod_sum2 hq hr, again_twice h hr]
    simp only [obs]
    obtain ⟨h0, h1, h2, h3⟩ := okN_all h
    rw [againV_ok (okN_of h0 (expB_mod _) h2 h3)]
    simp
theorem again_law (a0 a1 c0 c1 a3 a4 a5 : Int) (h3 : (Lit.int .u64 a3).wf = true) (h4 : (Lit.int .u64 a4).wf = true) (h5 : (Lit.int .u64 a5).wf = true) :
    ∃ K, ∀ k, K ≤ k → cohousinglaw40_BallotAgain.f k a0 a1 c0 c1 a3 a4 a5 = some true := by
  refine ⟨1, fun k hk => ?_⟩
  obtain ⟨k, rfl⟩ : ∃ m, k = m + 1 := ⟨k - 1, by omega⟩
  unfold cohousinglaw40_BallotAgain.f
  rw [exp_u64 h3, exp_u64 h4, exp_u64 h5]
  have p := expB_mod a3
  have q := expB_mod a4
  have r := expB_mod a5
  generalize a3 % 1073741789 = p_, a4 % 1073741789 = q_, a5 % 1073741789 = r_ at p q r
  rw [tmod_sum3 p q r]
  rw [show cohousinglaw40_head.f = some true from rfl, enc_f, enc_f]
  simp only [obs]
  rcases encV_cases a0 a1 p_ with ⟨g, hg, he⟩ | he
  · rw [he, he]
    cases h : okN a0 1 g p_ with
    | false =>
      rw [againV_no h]
      simp only
      rw [if_neg (by decide)]
      exact again_j0 k a0 c0 c1 q_ r_ q r
    | true =>
      obtain ⟨h0, h1, h2, h3⟩ := okN_all h
      rw [againV_ok h]
      simp only [if_true]
      rw [again_f, again_twice h q]
      have hs := okN_of h0 (expB_mod (p_ + q_)) h2 h3
      rw [againV_ok hs]
      simp only [obs, if_true]
      rw [again_f, again_twice hs r]
      simp only [obs, if_true]
      rw [againV_ok (okN_of h0 (expB_mod _) h2 h3)]
      simp only [if_true, beq_self_eq_true, Bool.not_true, Bool.or_self, Bool.false_eq_true, if_false]
      exact again_j0 k a0 c0 c1 q_ r_ q r
  · rw [he, he]
    simp only
    rw [if_neg (by decide)]
    exact again_j0 k a0 c0 c1 q_ r_ q r
end Go.Proofs.YtkaebblbmoolaaaDoor.P
