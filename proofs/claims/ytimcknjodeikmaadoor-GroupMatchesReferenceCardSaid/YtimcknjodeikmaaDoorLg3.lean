/- Layer 8: GroupMatchesReference. -/
import Derived.Test.YtimcknjodeikmaaDoorPg3
import Derived.Test.YtimcknjodeikmaaDoorPx10
set_option linter.unusedSimpArgs false
set_option linter.unusedVariables false
namespace Go.Proofs.YtimcknjodeikmaaDoor.P
open Go Go.RowKit Go.Proofs.YtimcknjodeikmaaDoorW.PrintWords Go.Proofs.YtimcknjodeikmaaDoorW.PrintLast Go.Proofs.YtimcknjodeikmaaDoorW.PrintMore

theorem matches_ev (a0 a1 a2 a3 c s : Int) (l : List Int) (h : ∀ a ∈ l, (Lit.int .i64 a).wf = true) (b : l.length ≤ 9223372036854775807) :
    ∃ K, ∀ k, K ≤ k → cohousinglaw08_GroupMatchesReference.f k a0 a1 a2 a3 c s l = some true := by
  refine ⟨40000, fun k hk => ?_⟩
  obtain ⟨k, rfl⟩ : ∃ m, k = m + 5 := ⟨k - 5, by omega⟩
  have m := few_msg h
  unfold cohousinglaw08_GroupMatchesReference.f
  rw [head_k _ (by omega), few_f l b, mul_f, refMul_f _ _ _ (by omega), member_f, refMember_f _ _ (by omega)]
  simp only [obs, if_true, beq_self_eq_true]
  simp only [cohousinglaw08_GroupMatchesReference.j0, exp_f]
  rw [refExp_f _ _ _ (by omega)]
  simp only [obs, if_true, beq_self_eq_true]
  simp only [cohousinglaw08_GroupMatchesReference.j1]
  rw [commit_f _ _ _ _ (by omega), refCommit_f _ _ _ _ (by omega)]
  simp only [obs, if_true, beq_self_eq_true]
  simp only [cohousinglaw08_GroupMatchesReference.j2]
  rw [sign_f _ _ _ m _ (by omega), refSign_f _ _ _ m _ (by omega)]
  simp only [obs, if_true, beq_self_eq_true, Bool.and_self]
  simp only [cohousinglaw08_GroupMatchesReference.j3]
  rw [verify_f _ _ _ _ m _ (by omega), refVerify_f _ _ _ _ m _ (by omega)]
  simp only [obs, if_true, beq_self_eq_true, Bool.and_self]
  simp only [cohousinglaw08_GroupMatchesReference.j4]
  rw [same_f _ _ _ _ _ (by omega), refSame_f _ _ _ _ _ (by omega)]
  simp only [obs, if_true, beq_self_eq_true, Bool.and_self]
  rw [equal_f _ _ _ _ _ _ _ (by omega), refEqual_f _ _ _ _ _ _ _ (by omega)]
  simp only [obs, if_true, beq_self_eq_true, Bool.and_self]
end Go.Proofs.YtimcknjodeikmaaDoor.P
