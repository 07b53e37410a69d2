/- Chapter 43: StatementBelongs. -/
import Derived.Test.YtkdckjafhaadiaaDoorSx
import Derived.Test.YtkdckjafhaadiaaDoorPx10
set_option linter.unusedSimpArgs false
set_option linter.unusedVariables false
namespace Go.Proofs.YtkdckjafhaadiaaDoor.P
open Go Go.RowKit Go.Proofs.YtkdckjafhaadiaaDoorW.PrintWords Go.Proofs.YtkdckjafhaadiaaDoorW.PrintLast Go.Proofs.YtkdckjafhaadiaaDoorW.PrintMore

theorem linesB_parts {l : List S50} (h : linesB l = true) : l.length ≤ 64 ∧ l.all lineB = true ∧ riseB S50.f0 l = true := by
  simp only [linesB, Bool.and_eq_true, decide_eq_true_eq] at h
  exact h
theorem belongs_l0 (h month other : Int) (lines : List (List S50)) (hn : lines.length ≤ 20) (hm : monthB month = true) (ha : sealOk h lines = true) (h1 : 1 ≤ lines.length) : ∀ (d i k : Nat), lines.length - i = d → i ≤ lines.length → 1500 + d < k →
    cohousinglaw43_StatementBelongs.l0 k month other true (sealG h 0 lines) (topV 10 (firstV (lfL month (sealG h 0 lines)))) lines (lines.length : Int) (i : Nat) = some true
  | 0, i, k, hd, hi, hk => by
    obtain ⟨k, rfl⟩ : ∃ n, k = n + 1 := ⟨k - 1, by omega⟩
    simp only [cohousinglaw43_StatementBelongs.l0]
    rw [if_neg (by omega)]
  | d + 1, i, k, hd, hi, hk => by
    obtain ⟨k, rfl⟩ : ∃ n, k = n + 1 := ⟨k - 1, by omega⟩
    have hlt : i < lines.length := by omega
    have ih := belongs_l0 h month other lines hn hm ha h1 d (i + 1) k (by omega) (by omega) (by omega)
    obtain ⟨hmk, hck⟩ := own_statement h month lines hn hm ha hlt
    have hp : AllU (pathV 10 i (firstV (lfL month (sealG h 0 lines)))) := allU_path 10 i _ (allU_map _)
    have hlen := (linesB_parts (sealOk_at ha hlt).2).1
    simp only [cohousinglaw43_StatementBelongs.l0]
    rw [if_pos (by omega), if_pos (by omega), if_pos (by omega), rd_getLL hlt, show wrap64 ((i : Int) + 1) = ((i + 1 : Nat) : Int) by unfold wrap64; omega]
    unfold statement_Make.f
    rw [hmk]
    simp only [obs]
    rw [scheck_f _ _ _ _ _ _ _ _ hp k (by omega), scheck_f _ _ _ _ _ _ _ _ hp k (by omega), hck, hck]
    simp only [obs, if_true, beq_self_eq_true]
    rw [if_pos (show ((topV 10 (firstV (lfL month (sealG h 0 lines))) == other) == (other == topV 10 (firstV (lfL month (sealG h 0 lines))))) = true from by rw [beq_iff_eq]; exact Bool.beq_comm)]
    rw [sameLines_f _ (by omega) k (by omega)]
    simp only [obs]
    exact ih
theorem belongs_ev (h month : Int) (lines : List (List S50)) (other : Int) : ∃ K, ∀ k, K ≤ k → cohousinglaw43_StatementBelongs.f k h month lines other = some true := by
  refine ⟨2000, fun k hk => ?_⟩
  obtain ⟨k, rfl⟩ : ∃ n, k = n + 2 := ⟨k - 2, by omega⟩
  unfold cohousinglaw43_StatementBelongs.f
  rw [show cohousinglaw43_head.f = some true from rfl]
  simp only [obs]
  by_cases hn : lines.length ≤ 20
  · rw [if_neg (by omega)]
    obtain ⟨t, ht⟩ := total_f lines hn (k + 2) (by omega)
    rw [ht]
    simp only [obs]
    by_cases h60 : t > 60
    · rw [decide_eq_true h60]
      simp only [cohousinglaw43_StatementBelongs.j0, if_true]
    · rw [decide_eq_false h60]
      simp only [cohousinglaw43_StatementBelongs.j0]
      rw [if_neg (by decide), sealed_f h lines hn _ (by omega)]
      simp only [obs]
      rw [sroot_f _ _ _ (by omega)]
      simp only [obs]
      cases ha : sealOk h lines with
      | false =>
        rw [if_neg (show ¬ ((false : Bool) = true) by decide)]
        simp only [cohousinglaw43_StatementBelongs.j1, Bool.false_eq_true, if_false, if_true]
      | true =>
        rw [if_pos rfl]
        simp only [if_true]
        by_cases hc : (monthB month && allB (sealG h 0 lines)) = true
        · simp only [Bool.and_eq_true] at hc
          have h1 : 1 ≤ lines.length := by have h := (allB_parts hc.2).1; rw [sealG_len] at h; exact h
          rw [rootS_ok hc.1 hc.2]
          simp only [cohousinglaw43_StatementBelongs.j1, bne_self_eq_false, Bool.false_eq_true, if_false]
          exact belongs_l0 h month other lines hn hc.1 ha h1 lines.length 0 k (by omega) (by omega) (by omega)
        · rw [show rootS month (sealG h 0 lines) = (0, 1) from by unfold rootS; rw [if_neg hc]]
          simp only [cohousinglaw43_StatementBelongs.j1]
          rfl
  · rw [if_pos (by omega)]
    simp only [cohousinglaw43_StatementBelongs.j0, if_true]
end Go.Proofs.YtkdckjafhaadiaaDoor.P
