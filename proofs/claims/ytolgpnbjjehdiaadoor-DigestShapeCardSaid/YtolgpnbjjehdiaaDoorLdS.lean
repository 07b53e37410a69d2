/- Layer 6: DigestShape. -/
import Derived.Test.YtolgpnbjjehdiaaDoorPd3
import Derived.Test.YtolgpnbjjehdiaaDoorPx14
set_option linter.unusedSimpArgs false
set_option linter.unusedVariables false
namespace Go.Proofs.YtolgpnbjjehdiaaDoor.P
open Go Go.RowKit Go.Proofs.YtolgpnbjjehdiaaDoorW.PrintWords Go.Proofs.YtolgpnbjjehdiaaDoorW.PrintLast Go.Proofs.YtolgpnbjjehdiaaDoorW.PrintMore

theorem wf_u64 {a : Int} (h : (Lit.int .u64 a).wf = true) : isU a = true := by
  simp [Lit.wf, IntKind.min, IntKind.max, IntKind.bits, IntKind.signed] at h
  exact isU_iff.2 (by omega)
/-- How many elements a way up has. -/
def cntV : Nat → Nat → Nat → Nat
  | 0, _, _ => 0
  | f + 1, i, n => if 1 < n then (if sib i ≥ n then 0 else 1) + cntV f (i / 2) ((n + 1) / 2) else 0
theorem way_len (root : Int) : ∀ (f i n : Nat) (path : List Int) (x : Int), wayV f root i n path x = true → path.length = cntV f i n
  | 0, i, n, path, x, h => by
    simp only [wayV, Bool.and_eq_true, decide_eq_true_eq] at h
    exact h.1
  | f + 1, i, n, path, x, h => by
    simp only [wayV] at h
    simp only [cntV]
    by_cases h1 : 1 < n
    · rw [if_pos h1] at h ⊢
      by_cases hs : sib i ≥ n
      · rw [if_pos hs] at h ⊢
        rw [Nat.zero_add]
        exact way_len root f _ _ _ _ h
      · rw [if_neg hs] at h ⊢
        cases path with
        | nil => cases h
        | cons p ps =>
          have := way_len root f _ _ _ _ h
          rw [List.length_cons, this]
          omega
    · rw [if_neg h1] at h ⊢
      simp only [Bool.and_eq_true, decide_eq_true_eq] at h
      exact h.1
theorem path_cnt : ∀ (f i : Nat) (l : List Int), (pathV f i l).length = cntV f i l.length
  | 0, i, l => rfl
  | f + 1, i, l => by
    simp only [pathV, cntV]
    by_cases h1 : 1 < l.length
    · rw [if_pos h1, if_pos h1, List.length_append, path_cnt f, upV_len]
      by_cases hs : sib i < l.length
      · rw [if_pos hs, if_neg (by omega)]; rfl
      · rw [if_neg hs, if_pos (by omega)]; rfl
    · rw [if_neg h1, if_neg h1]; rfl
theorem check_short {root leaf : Int} {l : List Int} {i : Nat} {path : List Int} (hl : l.length ≤ 1024) (hi : i < l.length) (hne : path.length ≠ (pathV 10 i (firstV l)).length) : checkV root leaf (i : Int) (l.length : Int) path = false := by
  unfold checkV
  rw [if_neg (by omega), Int.toNat_natCast, Int.toNat_natCast]
  cases h : wayV 10 root i l.length path (leafV leaf) with
  | false => rfl
  | true =>
    have := way_len root 10 i l.length path _ h
    rw [path_cnt, firstV_len] at hne
    exact absurd this hne
theorem shape_ev (l : List Int) (at_ more : Int) (hu : AllU l) (hm : isU more = true) : ∃ K, ∀ k, K ≤ k → cohousinglaw06_DigestShape.f k l at_ more = some true := by
  refine ⟨3000, fun k hk => ?_⟩
  obtain ⟨k, rfl⟩ : ∃ m, k = m + 3 := ⟨k - 3, by omega⟩
  unfold cohousinglaw06_DigestShape.f cohousinglaw06_head.f
  simp only [obs, cohousinglaw06_DigestShape.j0]
  by_cases h0 : (l.length : Int) = 0
  · simp only [if_pos h0, if_true]
  by_cases h1 : (l.length : Int) > 1024
  · simp only [if_neg h0, decide_eq_true h1, if_true]
  simp only [if_neg h0, decide_eq_false h1, Bool.false_eq_true, if_false]
  obtain ⟨i, hi, hie⟩ := idx_mod at_ l.length (by omega) (by omega)
  have hpl := pathV_len 10 i (firstV l)
  have hpu := allU_path 10 i (firstV l) (allU_map l)
  have hlf := hu _ (rd_mem hi)
  rw [hie, root_f l hu _ (by omega), path_f l _ hu _ (by omega), rootV_ok (by omega) (by omega), pathR_ok hi (by omega)]
  simp only [obs, if_true, bne_self_eq_false]
  have s1 : ∀ path : List Int, path.length ≠ (pathV 10 i (firstV l)).length → checkV (topV 10 (firstV l)) (rd l (i : Nat)) (i : Int) (l.length : Int) path = false := fun path hne => check_short (by omega) hi hne
  generalize pathV 10 i (firstV l) = p at *
  generalize topV 10 (firstV l) = root at *
  have hlong : AllU (p ++ [more]) := fun x hx => by
    rcases List.mem_append.1 hx with hx | hx
    · exact hpu x hx
    · rw [List.mem_singleton.1 hx]; exact hm
  have c2 : checkV root (rd l (i : Nat)) (l.length : Int) (l.length : Int) p = false := by unfold checkV; rw [if_pos (by omega)]
  have c3 : checkV root (rd l (i : Nat)) (-1 - (i : Int)) (l.length : Int) p = false := by unfold checkV; rw [if_pos (by omega)]
  have c4 : checkV root (rd l (i : Nat)) (i : Int) 0 p = false := by unfold checkV; rw [if_pos (by omega)]
  have c5 : checkV root (rd l (i : Nat)) (i : Int) (1024 + (l.length : Int)) p = false := by unfold checkV; rw [if_pos (by omega)]
  simp only [cohousinglaw06_DigestShape.j1, Bool.false_eq_true, if_false, obs, List.nil_append, List.length_nil, Nat.zero_add, if_true]
  rw [if_pos (by omega), if_pos (by omega), if_pos (by omega), if_pos (by omega)]
  rw [check_f _ _ _ _ _ hlf hlong _ (by omega), s1 _ (by rw [List.length_append]; simp)]
  simp only [obs, Bool.false_eq_true, if_false]
  rw [check_f _ _ _ _ _ hlf hpu _ (by omega), c2]
  simp only [obs, Bool.false_eq_true, if_false]
  rw [wrap_id (a := -1 - (i : Int)) (by omega) (by omega), check_f _ _ _ _ _ hlf hpu _ (by omega), c3]
  simp only [obs, Bool.false_eq_true, if_false]
  rw [check_f _ _ _ _ _ hlf hpu _ (by omega), c4]
  simp only [obs, Bool.false_eq_true, if_false]
  rw [wrap_id (a := 1024 + (l.length : Int)) (by omega) (by omega), check_f _ _ _ _ _ hlf hpu _ (by omega), c5]
  simp only [obs, Bool.not_false]
  simp only [cohousinglaw06_DigestShape.j2, if_true]
  by_cases hp0 : (p.length : Int) > 0
  · rw [if_pos hp0, wrap_id (by omega) (by omega), if_pos (by omega), if_pos (by omega), if_pos (by omega), if_pos (by omega)]
    rw [check_f _ _ _ _ _ hlf (fun x hx => hpu x (List.mem_of_mem_take hx)) _ (by omega), s1 _ (by rw [List.length_take]; omega)]
    simp only [obs, Bool.false_eq_true, if_false]
    rw [check_f _ _ _ _ _ hlf (fun x hx => by cases hx) _ (by omega), s1 _ (by simp; omega)]
    rfl
  · rw [if_neg hp0]
end Go.Proofs.YtolgpnbjjehdiaaDoor.P
