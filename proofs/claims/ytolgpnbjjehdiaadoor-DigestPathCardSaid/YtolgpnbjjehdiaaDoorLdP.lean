/- Layer 6: DigestPath. -/
import Derived.Test.YtolgpnbjjehdiaaDoorPd3
import Derived.Test.YtolgpnbjjehdiaaDoorPx12
set_option linter.unusedSimpArgs false
set_option linter.unusedVariables false
namespace Go.Proofs.YtolgpnbjjehdiaaDoor.P
open Go Go.RowKit Go.Proofs.YtolgpnbjjehdiaaDoorW.PrintWords Go.Proofs.YtolgpnbjjehdiaaDoorW.PrintLast Go.Proofs.YtolgpnbjjehdiaaDoorW.PrintMore

theorem wf_u64 {a : Int} (h : (Lit.int .u64 a).wf = true) : isU a = true := by
  simp [Lit.wf, IntKind.min, IntKind.max, IntKind.bits, IntKind.signed] at h
  exact isU_iff.2 (by omega)
theorem path_ev (l : List Int) (at_ : Int) (hu : AllU l) : ∃ K, ∀ k, K ≤ k → cohousinglaw06_DigestPath.f k l at_ = some true := by
  refine ⟨2000, fun k hk => ?_⟩
  obtain ⟨k, rfl⟩ : ∃ m, k = m + 1 := ⟨k - 1, by omega⟩
  unfold cohousinglaw06_DigestPath.f cohousinglaw06_head.f
  simp only [obs, cohousinglaw06_DigestPath.j0]
  by_cases h0 : (l.length : Int) = 0
  · simp only [if_pos h0, if_true]
  by_cases h1 : (l.length : Int) > 1024
  · simp only [if_neg h0, decide_eq_true h1, if_true]
  simp only [if_neg h0, decide_eq_false h1, Bool.false_eq_true, if_false]
  obtain ⟨i, hi, hie⟩ := idx_mod at_ l.length (by omega) (by omega)
  have hpl := pathV_len 10 i (firstV l)
  rw [hie, root_f l hu _ (by omega), path_f l _ hu _ (by omega), rootV_ok (by omega) (by omega), pathR_ok hi (by omega)]
  simp only [obs, if_true]
  rw [if_pos (by omega), if_pos (by omega), if_pos (by omega), check_f _ _ _ _ _ (hu _ (rd_mem hi)) (allU_path 10 i (firstV l) (allU_map l)) _ (by omega), check_own hi (by omega)]
  rfl
end Go.Proofs.YtolgpnbjjehdiaaDoor.P
