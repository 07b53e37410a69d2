/- Layer 6: what the reference computes of trees. -/
import Derived.Test.YtolgpnbjjehdiaaDoorPd3
import Derived.Test.YtolgpnbjjehdiaaDoorPd4
import Derived.Test.YtolgpnbjjehdiaaDoorPx6
import Derived.Test.YtolgpnbjjehdiaaDoorPx7
import Derived.Test.YtolgpnbjjehdiaaDoorPx9
import Derived.Test.YtolgpnbjjehdiaaDoorPx2
set_option linter.unusedSimpArgs false
set_option linter.unusedVariables false
namespace Go.Proofs.YtolgpnbjjehdiaaDoor.P
open Go Go.RowKit Go.Proofs.YtolgpnbjjehdiaaDoorW.PrintWords Go.Proofs.YtolgpnbjjehdiaaDoorW.PrintLast Go.Proofs.YtolgpnbjjehdiaaDoorW.PrintMore

theorem octs_eq (n : Int) : octs n = [n / 2 ^ 56 % 256, n / 2 ^ 48 % 256, n / 2 ^ 40 % 256, n / 2 ^ 32 % 256, n / 2 ^ 24 % 256, n / 2 ^ 16 % 256, n / 2 ^ 8 % 256, n / 2 ^ 0 % 256] := rfl
theorem shr_k (n : Int) (k : Nat) (hk : k ≤ 64) : shr .u64 n (k : Int) = n / 2 ^ k := by
  unfold shr
  rw [Int.toNat_natCast, Nat.min_eq_left (by simpa [IntKind.bits] using hk)]
theorem refEight_f (n : Int) (k : Nat) (hk : 20 ≤ k) : cohousingref06_eight.f k n = some (octs n) := by
  obtain ⟨k, rfl⟩ : ∃ m, k = m + 9 := ⟨k - 9, by omega⟩
  have step : ∀ (k j : Nat) (acc : List Int), j ≤ 56 → acc.length ≤ 1000 → cohousingref06_eight.l0 (k + 1) n acc (j : Int) = cohousingref06_eight.l0 k n (acc ++ [n / 2 ^ j % 256]) ((j : Int) - 8) := by
    intro k j acc hj hl
    simp only [cohousingref06_eight.l0]
    rw [if_pos (by omega), if_pos (by omega), if_pos (by omega), shr_k n j (by omega), wrap_id (by omega) (by omega)]
  have e : ∀ (k : Nat) (acc : List Int), cohousingref06_eight.l0 (k + 1) n acc (-8) = some acc := by
    intro k acc
    simp only [cohousingref06_eight.l0]
    rw [if_neg (by omega)]
  unfold cohousingref06_eight.f
  refine (step (k + 8) 56 _ (by omega) (by simp)).trans ((step (k + 7) 48 _ (by omega) (by simp)).trans ((step (k + 6) 40 _ (by omega) (by simp)).trans ((step (k + 5) 32 _ (by omega) (by simp)).trans ((step (k + 4) 24 _ (by omega) (by simp)).trans ((step (k + 3) 16 _ (by omega) (by simp)).trans ((step (k + 2) 8 _ (by omega) (by simp)).trans ((step (k + 1) 0 _ (by omega) (by simp)).trans ?_)))))))
  exact (e k _).trans (by rw [octs_eq]; rfl)
theorem refLeaf_f (n : Int) (k : Nat) (hk : 100 ≤ k) : cohousingref06_Leaf.f k n = some (leafV n) := by
  unfold cohousingref06_Leaf.f
  rw [refEight_f n k (by omega)]
  simp only [obs]
  rw [if_pos (by rw [octs_len]; simp)]
  rw [refSum_f _ (by rw [List.length_append, octs_len]; simp) _ (by rw [List.length_append, octs_len]; simp; omega)]
  rfl
theorem refPair_f (n m : Int) (k : Nat) (hk : 100 ≤ k) : cohousingref06_Pair.f k n m = some (joinV n m) := by
  unfold cohousingref06_Pair.f
  rw [refEight_f n k (by omega), refEight_f m k (by omega)]
  simp only [obs]
  rw [if_pos (by rw [octs_len]; simp), if_pos (by rw [List.length_append, octs_len, octs_len]; simp)]
  rw [refSum_f _ (by rw [List.length_append, List.length_append, octs_len, octs_len]; simp) _ (by rw [List.length_append, List.length_append, octs_len, octs_len]; simp; omega)]
  simp only [obs, List.append_assoc]
  rfl
theorem refFirst_l0 (l : List Int) (hl : l.length ≤ 100000) : ∀ (d i k : Nat), l.length - i = d → i ≤ l.length → 200 + d < k → cohousingref06_first.l0 k l (firstV (l.take i)) (i : Nat) = some (firstV l)
  | d, i, 0, hd, hi, hk => by omega
  | 0, i, k + 1, hd, hi, hk => by
    obtain rfl : i = l.length := by omega
    simp only [cohousingref06_first.l0]
    rw [if_neg (by omega), List.take_length]
  | d + 1, i, k + 1, hd, hi, hk => by
    have ih := refFirst_l0 l hl d (i + 1) k (by omega) (by omega) (by omega)
    have hlt : i < l.length := by omega
    have e : firstV (l.take (i + 1)) = firstV (l.take i) ++ [leafV (rd l (i : Nat))] := by
      unfold firstV
      rw [List.take_succ_eq_append_getElem hlt, List.map_append, rd_get hlt]
      rfl
    simp only [cohousingref06_first.l0]
    rw [if_pos (by omega), if_pos (by omega), refLeaf_f _ _ (by omega)]
    simp only [obs]
    rw [if_pos (by rw [firstV_len, List.length_take]; omega), ← e, wrapN i (by omega), ih]
theorem refFirst_f (l : List Int) (hl : l.length ≤ 100000) (k : Nat) (hk : 200 + l.length < k) : cohousingref06_first.f k l = some (firstV l) :=
  refFirst_l0 l hl l.length 0 k (by omega) (by omega) hk
theorem refUp_l0 (l : List Int) (hl : l.length ≤ 100000) : ∀ (d j k : Nat), l.length / 2 - j = d → j ≤ l.length / 2 → 200 + d < k → cohousingref06_up.l0 k l (pairs l j) ((2 * j : Nat) : Int) = some (upV l)
  | d, j, 0, hd, hj, hk => by omega
  | 0, j, k + 1, hd, hj, hk => by
    obtain rfl : j = l.length / 2 := by omega
    have hp := pairs_len l (l.length / 2)
    rw [up_pairs l]
    by_cases ho : l.length % 2 = 1
    · obtain ⟨k, rfl⟩ : ∃ m, k = m + 1 := ⟨k - 1, by omega⟩
      simp only [cohousingref06_up.l0]
      have e1 : (2 * (l.length / 2) : Nat) = l.length - 1 := by omega
      rw [e1, wrapN _ (by omega), if_pos (by omega), if_neg (by omega), if_pos (by omega), if_pos (by omega), wrap_id (by omega) (by omega), if_neg (by omega), if_pos ho]
    · simp only [cohousingref06_up.l0]
      rw [if_neg (by omega), if_neg ho, List.append_nil]
  | d + 1, j, k + 1, hd, hj, hk => by
    have ih := refUp_l0 l hl d (j + 1) k (by omega) (by omega) (by omega)
    have hp := pairs_len l j
    rw [pairs_succ] at ih
    simp only [cohousingref06_up.l0]
    rw [wrapN (2 * j) (by omega), if_pos (by omega), if_pos (by omega), if_pos (by omega), if_pos (by omega), refPair_f _ _ _ (by omega)]
    simp only [obs]
    rw [if_pos (by omega), wrap_id (by omega) (by omega), show (((2 * j : Nat) : Int) + 2) = ((2 * (j + 1) : Nat) : Int) from by omega]
    exact ih
theorem refUp_f (l : List Int) (hl : l.length ≤ 100000) (k : Nat) (hk : 200 + l.length < k) : cohousingref06_up.f k l = some (upV l) :=
  refUp_l0 l hl (l.length / 2) 0 k (by omega) (by omega) (by omega)
theorem refRoot_l0 : ∀ (f k : Nat) (l : List Int), 0 < l.length → l.length ≤ 2 ^ f → f ≤ 11 → 5000 + f < k → cohousingref06_Root.l0 k l = some (topV f l, 0)
  | f, 0, l, h0, hl, hf, hk => by omega
  | 0, k + 1, l, h0, hl, hf, hk => by
    have : l.length ≤ 1 := by simpa using hl
    simp only [cohousingref06_Root.l0]
    rw [if_neg (by omega), if_pos (by omega)]
    rfl
  | f + 1, k + 1, l, h0, hl, hf, hk => by
    have h2 : (2 : Nat) ^ (f + 1) ≤ 2 ^ 11 := Nat.pow_le_pow_right (by omega) hf
    simp only [cohousingref06_Root.l0, topV]
    by_cases h : 1 < l.length
    · have ih := refRoot_l0 f k (upV l) (by rw [upV_len]; omega) (by rw [upV_len]; rw [Nat.pow_succ] at hl; omega) (by omega) (by omega)
      rw [if_pos (by omega), refUp_f l (by omega) _ (by omega), if_pos h]
      simp only [obs]
      exact ih
    · rw [if_neg (by omega), if_pos (by omega), if_neg h]
theorem refTree_f (n : Nat) : cohousingref06_tree.f (n : Int) = some (if n = 0 then 1 else if n > 1024 then 2 else 0) := by
  unfold cohousingref06_tree.f
  by_cases h0 : n = 0
  · rw [if_pos (by omega), if_pos h0]
  · rw [if_neg (by omega), if_neg h0]
    by_cases h1 : n > 1024
    · rw [if_pos (by omega), if_pos h1]
    · rw [if_neg (by omega), if_neg h1]
theorem refRoot_f (l : List Int) (k : Nat) (hk : 6000 ≤ k) : cohousingref06_Root.f k l = some (rootV l) := by
  unfold cohousingref06_Root.f rootV
  rw [refTree_f]
  simp only [obs]
  by_cases h0 : l.length = 0
  · simp only [if_pos h0]; rfl
  · simp only [if_neg h0]
    by_cases h1 : l.length > 1024
    · simp only [if_pos h1]; rfl
    · simp only [if_neg h1, if_true]
      rw [refFirst_f l (by omega) _ (by omega)]
      simp only [obs]
      exact refRoot_l0 10 k (firstV l) (by rw [firstV_len]; omega) (by rw [firstV_len]; omega) (by omega) (by omega)
theorem refPath_l0 : ∀ (f k i : Nat) (l acc : List Int), i < l.length → l.length ≤ 2 ^ f → f ≤ 11 → acc.length + f ≤ 1000 → 5000 + f < k → cohousingref06_Path.l0 k (i : Int) acc l = some (acc ++ pathV f i l, 0)
  | f, 0, i, l, acc, hi, hl, hf, ha, hk => by omega
  | 0, k + 1, i, l, acc, hi, hl, hf, ha, hk => by
    have : l.length ≤ 1 := by simpa using hl
    simp only [cohousingref06_Path.l0, pathV]
    rw [if_neg (by omega), List.append_nil]
  | f + 1, k + 1, i, l, acc, hi, hl, hf, ha, hk => by
    have h2 : (2 : Nat) ^ (f + 1) ≤ 2 ^ 11 := Nat.pow_le_pow_right (by omega) hf
    simp only [cohousingref06_Path.l0, pathV]
    rw [half i (by omega)]
    by_cases h : 1 < l.length
    · have ih := fun acc' (ha : acc'.length + f ≤ 1000) => refPath_l0 f k (i / 2) (upV l) acc' (by rw [upV_len]; omega) (by rw [upV_len]; rw [Nat.pow_succ] at hl; omega) (by omega) ha (by omega)
      rw [if_pos (by omega), if_pos h, refUp_f l (by omega) _ (by omega)]
      by_cases ho : i % 2 = 1
      · have hs : sib i = i - 1 := by unfold sib; rw [if_pos ho]
        rw [if_pos ((odd_iff i).2 ho), wrapM i (by omega) (by omega), if_pos (by omega), if_pos (by omega), if_pos (by omega), hs, if_pos (by omega)]
        simp only [obs]
        rw [ih _ (by rw [List.length_append]; simp; omega), List.append_assoc]
      · have hs : sib i = i + 1 := by unfold sib; rw [if_neg ho]
        rw [if_neg (fun h => ho ((odd_iff i).1 h)), wrapN i (by omega), hs]
        by_cases hb : i + 1 < l.length
        · rw [if_pos (by omega), if_pos (by omega), if_pos (by omega), if_pos hb]
          simp only [obs]
          rw [ih _ (by rw [List.length_append]; simp; omega), List.append_assoc]
        · rw [if_neg (by omega), if_neg hb]
          simp only [obs, List.nil_append]
          rw [ih _ (by omega)]
    · rw [if_neg (by omega), if_neg h, List.append_nil]
theorem refPath_f (l : List Int) (i : Int) (k : Nat) (hk : 6000 ≤ k) : cohousingref06_Path.f k l i = some (pathR l i) := by
  obtain ⟨k, rfl⟩ : ∃ m, k = m + 1 := ⟨k - 1, by omega⟩
  unfold cohousingref06_Path.f pathR
  rw [refTree_f]
  simp only [obs, cohousingref06_Path.j0]
  by_cases h0 : l.length = 0
  · simp only [if_pos h0]; rfl
  · simp only [if_neg h0]
    by_cases h1 : l.length > 1024
    · simp only [if_pos h1]; rfl
    · simp only [if_neg h1, if_true]
      by_cases h2 : i < 0
      · have hc : ¬ (0 ≤ i ∧ i < (l.length : Int)) := by omega
        simp only [if_pos h2, if_neg hc]
      · by_cases h3 : i ≥ (l.length : Int)
        · have hc : ¬ (0 ≤ i ∧ i < (l.length : Int)) := by omega
          simp only [if_neg h2, if_neg hc, decide_eq_true h3, if_true]
        · have hc : 0 ≤ i ∧ i < (l.length : Int) := by omega
          simp only [if_neg h2, if_pos hc, decide_eq_false h3, Bool.false_eq_true, if_false]
          obtain ⟨n, rfl⟩ := Int.eq_ofNat_of_zero_le (show 0 ≤ i by omega)
          rw [Int.toNat_natCast, refFirst_f l (by omega) _ (by omega)]
          simp only [obs]
          have h := refPath_l0 10 k n (firstV l) [] (by rw [firstV_len]; omega) (by rw [firstV_len]; omega) (by omega) (by simp) (by omega)
          rw [List.nil_append] at h
          exact h
theorem drop_cons {l : List Int} {u : Nat} (h : u < l.length) : l.drop u = rd l (u : Nat) :: l.drop (u + 1) := by
  rw [rd_get h, List.getElem_cons_drop]
theorem refCheck_l0 (root : Int) (path : List Int) (hpl : path.length ≤ 1000) : ∀ (f k i n u : Nat) (x : Int), u ≤ path.length → i < n → n ≤ 2 ^ f → f ≤ 11 → 1000 + 4 * f < k → cohousingref06_Check.l0 k root (i : Int) (n : Int) path x (u : Int) = some (wayV f root i n (path.drop u) x)
  | f, 0, i, n, u, x, hu, hi, hn, hf, hk => by omega
  | 0, k + 1, i, n, u, x, hu, hi, hn, hf, hk => by
    have : n ≤ 1 := by simpa using hn
    simp only [cohousingref06_Check.l0, wayV]
    rw [if_neg (by omega), List.length_drop]
    by_cases h : u = path.length
    · rw [if_pos (by omega), decide_eq_true (by omega), Bool.true_and]
    · rw [if_neg (by omega), decide_eq_false (by omega), Bool.false_and]
  | f + 1, k + 1, i, n, u, x, hu, hi, hn, hf, hk => by
    have h2 : (2 : Nat) ^ (f + 1) ≤ 2 ^ 11 := Nat.pow_le_pow_right (by omega) hf
    obtain ⟨k, rfl⟩ : ∃ m, k = m + 3 := ⟨k - 3, by omega⟩
    have ih := fun u y (hu : u ≤ path.length) => refCheck_l0 root path hpl f k (i / 2) ((n + 1) / 2) u y hu (by omega) (by rw [Nat.pow_succ] at hn; omega) (by omega) (by omega)
    simp only [cohousingref06_Check.l0, wayV]
    by_cases h : 1 < n
    · rw [if_pos (by omega), if_pos h, wrapN i (by omega)]
      by_cases ho : i % 2 = 1
      · have hs : ¬ sib i ≥ n := by unfold sib; rw [if_pos ho]; omega
        have hto := (odd_iff i).2 ho
        rw [if_pos hto, if_neg hs]
        simp only [cohousingref06_Check.j2, if_true, cohousingref06_Check.j3]
        by_cases hup : u = path.length
        · have hbe : ((u : Int) == (path.length : Int)) = true := by rw [hup]; simp
          rw [hbe, if_pos rfl, hup, List.drop_length]
        · have hbe : ((u : Int) == (path.length : Int)) = false := by rw [beq_eq_false_iff_ne]; omega
          have hbo : (Int.tmod (i : Int) 2 == 1) = true := by rw [beq_iff_eq]; exact hto
          simp only [hbe, Bool.false_eq_true, if_false, hbo, cohousingref06_Check.j4, if_true]
          rw [if_pos (by omega), if_pos (by omega), refPair_f _ _ _ (by omega)]
          simp only [obs]
          rw [half i (by omega), half1 n (by omega), wrapN u (by omega), ih _ _ (by omega), drop_cons (show u < path.length by omega)]
          simp only [if_pos ho]
      · have hto : ¬ Int.tmod (i : Int) 2 = 1 := fun h => ho ((odd_iff i).1 h)
        have hbo : (Int.tmod (i : Int) 2 == 1) = false := by rw [beq_eq_false_iff_ne]; exact hto
        rw [if_neg hto]
        have hse : sib i = i + 1 := by unfold sib; rw [if_neg ho]
        by_cases hb : i + 1 < n
        · have hs : ¬ sib i ≥ n := by omega
          have hd : decide (((i + 1 : Nat) : Int) < (n : Int)) = true := decide_eq_true (by omega)
          rw [hd, if_neg hs]
          simp only [cohousingref06_Check.j2, if_true, cohousingref06_Check.j3]
          by_cases hup : u = path.length
          · have hbe : ((u : Int) == (path.length : Int)) = true := by rw [hup]; simp
            rw [hbe, if_pos rfl, hup, List.drop_length]
          · have hbe : ((u : Int) == (path.length : Int)) = false := by rw [beq_eq_false_iff_ne]; omega
            simp only [hbe, Bool.false_eq_true, if_false, hbo, cohousingref06_Check.j4, if_true]
            rw [if_pos (by omega), if_pos (by omega), refPair_f _ _ _ (by omega)]
            simp only [obs]
            rw [half i (by omega), half1 n (by omega), wrapN u (by omega), ih _ _ (by omega), drop_cons (show u < path.length by omega)]
            simp only [if_neg ho]
        · have hs : sib i ≥ n := by omega
          have hd : decide (((i + 1 : Nat) : Int) < (n : Int)) = false := decide_eq_false (by omega)
          rw [hd, if_pos hs]
          simp only [cohousingref06_Check.j2, Bool.false_eq_true, if_false, cohousingref06_Check.j3, cohousingref06_Check.j4]
          rw [half i (by omega), half1 n (by omega), ih _ _ hu]
    · rw [if_neg (by omega), if_neg h, List.length_drop]
      by_cases h0 : u = path.length
      · rw [if_pos (by omega), decide_eq_true (by omega), Bool.true_and]
      · rw [if_neg (by omega), decide_eq_false (by omega), Bool.false_and]
theorem refCheck_f (root leaf i n : Int) (path : List Int) (hpl : path.length ≤ 1000) (k : Nat) (hk : 2000 ≤ k) : cohousingref06_Check.f k root leaf i n path = some (checkV root leaf i n path) := by
  obtain ⟨k, rfl⟩ : ∃ m, k = m + 1 := ⟨k - 1, by omega⟩
  unfold cohousingref06_Check.f checkV
  simp only [cohousingref06_Check.j0, if_true]
  by_cases h0 : n < 1
  · rw [if_pos h0, if_pos (.inl h0)]
  rw [if_neg h0]
  by_cases h1 : n > 1024
  · rw [if_pos h1, if_pos (.inr (.inl h1))]
  rw [if_neg h1]
  by_cases h2 : i < 0
  · rw [if_pos h2, if_pos (.inr (.inr (.inl h2)))]
  rw [if_neg h2]
  by_cases h3 : i ≥ n
  · have hc : n < 1 ∨ n > 1024 ∨ i < 0 ∨ i ≥ n := .inr (.inr (.inr h3))
    simp only [decide_eq_true h3, if_pos hc, if_true]
  have hc : ¬ (n < 1 ∨ n > 1024 ∨ i < 0 ∨ i ≥ n) := by omega
  simp only [decide_eq_false h3, if_neg hc]
  rw [refLeaf_f leaf _ (by omega)]
  obtain ⟨a, rfl⟩ := Int.eq_ofNat_of_zero_le (show 0 ≤ i by omega)
  obtain ⟨b, rfl⟩ := Int.eq_ofNat_of_zero_le (show 0 ≤ n by omega)
  simp only [obs, Bool.false_eq_true, if_false, Int.toNat_natCast]
  have h := refCheck_l0 root path hpl 10 k a b 0 (leafV leaf) (by omega) (by omega) (by omega) (by omega) (by omega)
  rw [List.drop_zero] at h
  exact h
theorem refSame_refl (l : List Int) (hl : l.length ≤ 100000) (k : Nat) (hk : l.length < k) : cohousingref06_Same.f k l l = some true := by
  unfold cohousingref06_Same.f
  rw [if_pos rfl]
  have go : ∀ (d i k : Nat), l.length - i = d → i ≤ l.length → d < k → cohousingref06_Same.l0 k l l (i : Nat) = some true := by
    intro d
    induction d with
    | zero =>
      intro i k hd hi hk
      obtain ⟨k, rfl⟩ : ∃ m, k = m + 1 := ⟨k - 1, by omega⟩
      simp only [cohousingref06_Same.l0]
      rw [if_neg (by omega)]
    | succ d ih =>
      intro i k hd hi hk
      obtain ⟨k, rfl⟩ : ∃ m, k = m + 1 := ⟨k - 1, by omega⟩
      simp only [cohousingref06_Same.l0]
      rw [if_pos (by omega), if_pos (by omega), if_pos (by omega), if_pos trivial, wrapN i (by omega), ih (i + 1) k (by omega) (by omega) (by omega)]
  exact go l.length 0 k (by omega) (by omega) hk
end Go.Proofs.YtolgpnbjjehdiaaDoor.P
