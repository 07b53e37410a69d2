/- Layer 6: DigestMatchesReference. -/
import Derived.Test.YtolgpnbjjehdiaaDoorPd5
import Derived.Test.YtolgpnbjjehdiaaDoorPx10
set_option linter.unusedSimpArgs false
set_option linter.unusedVariables false
namespace Go.Proofs.YtolgpnbjjehdiaaDoor.P
open Go Go.RowKit Go.Proofs.YtolgpnbjjehdiaaDoorW.PrintWords Go.Proofs.YtolgpnbjjehdiaaDoorW.PrintLast Go.Proofs.YtolgpnbjjehdiaaDoorW.PrintMore

theorem wf_u64 {a : Int} (h : (Lit.int .u64 a).wf = true) : isU a = true := by
  simp [Lit.wf, IntKind.min, IntKind.max, IntKind.bits, IntKind.signed] at h
  exact isU_iff.2 (by omega)
theorem wf_i64 {a : Int} (h : (Lit.int .i64 a).wf = true) : okInt a = true := by
  simp [Lit.wf, IntKind.min, IntKind.max, IntKind.bits, IntKind.signed] at h
  simp only [okInt, Bool.and_eq_true, decide_eq_true_eq]
  omega
theorem ints_f (l : List Int) (hl : l.length ≤ 1000000) (hok : ∀ x ∈ l, okInt x = true) : digest_Ints.f l = some (sumB (txt l)) := by
  unfold digest_Ints.f
  rw [if_pos ⟨List.all_eq_true.2 hok, by omega⟩]
theorem pathR_len (l : List Int) (i : Int) : (pathR l i).1.length ≤ 10 := by
  unfold pathR
  split
  · simp
  · split
    · simp
    · split
      · exact pathV_len 10 _ _
      · simp
theorem pathR_u (l : List Int) (i : Int) : AllU (pathR l i).1 := by
  unfold pathR
  split
  · intro x hx; cases hx
  · split
    · intro x hx; cases hx
    · split
      · exact allU_path 10 _ _ (allU_map l)
      · intro x hx; cases hx
theorem matches_ev (b l leaves : List Int) (i n root leaf : Int) (path : List Int) (hl : ∀ x ∈ l, okInt x = true) (hu : AllU leaves) (hleaf : isU leaf = true) (hp : AllU path) :
    ∃ K, ∀ k, K ≤ k → cohousinglaw06_DigestMatchesReference.f k b l leaves i n root leaf path = some true := by
  refine ⟨20000, fun k hk => ?_⟩
  obtain ⟨k, rfl⟩ : ∃ m, k = m + 4 := ⟨k - 4, by omega⟩
  unfold cohousinglaw06_DigestMatchesReference.f cohousinglaw06_head.f
  simp only [obs, cohousinglaw06_DigestMatchesReference.j0]
  by_cases h0 : (b.length : Int) > 300
  · simp only [if_pos h0, if_true]
  by_cases h1 : (l.length : Int) > 300
  · simp only [if_neg h0, if_pos h1, if_true]
  by_cases h2 : (leaves.length : Int) > 1100
  · simp only [if_neg h0, if_neg h1, if_pos h2, if_true]
  by_cases h3 : (path.length : Int) > 20
  · simp only [if_neg h0, if_neg h1, if_neg h2, decide_eq_true h3, if_true]
  simp only [if_neg h0, if_neg h1, if_neg h2, decide_eq_false h3, Bool.false_eq_true, if_false, if_true]
  rw [sum_f b (by omega) _ (by omega), refSum_f b (by omega) _ (by omega), ints_f l (by omega) hl, refInts_f l (by omega) hl _ (by omega)]
  simp only [obs, if_true, beq_self_eq_true]
  simp only [cohousinglaw06_DigestMatchesReference.j1]
  rw [root_f leaves hu _ (by omega), refRoot_f leaves _ (by omega)]
  simp only [obs, if_true, beq_self_eq_true]
  simp only [cohousinglaw06_DigestMatchesReference.j2]
  have hpl := pathR_len leaves i
  rw [path_f leaves i hu _ (by omega), refPath_f leaves i _ (by omega)]
  simp only [obs, if_true]
  rw [refSame_refl _ (by omega) _ (by omega)]
  simp only [obs, if_true, beq_self_eq_true]
  simp only [cohousinglaw06_DigestMatchesReference.j3, if_true]
  rw [check_f _ _ _ _ _ hleaf hp _ (by omega), refCheck_f _ _ _ _ _ (by omega) _ (by omega), check_f _ _ _ _ _ hleaf (pathR_u leaves i) _ (by omega), refCheck_f _ _ _ _ _ (by omega) _ (by omega)]
  simp only [obs, if_true, beq_self_eq_true]
end Go.Proofs.YtolgpnbjjehdiaaDoor.P
