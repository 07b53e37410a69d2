/- Layer 6: DigestTree. -/
import Derived.Test.YtolgpnbjjehdiaaDoorPd
import Derived.Test.YtolgpnbjjehdiaaDoorPx2
import Derived.Test.YtolgpnbjjehdiaaDoorPx12
set_option linter.unusedSimpArgs false
set_option linter.unusedVariables false
namespace Go.Proofs.YtolgpnbjjehdiaaDoor.P
open Go Go.RowKit Go.Proofs.YtolgpnbjjehdiaaDoorW.PrintWords Go.Proofs.YtolgpnbjjehdiaaDoorW.PrintLast Go.Proofs.YtolgpnbjjehdiaaDoorW.PrintMore

theorem wf_u64 {a : Int} (h : (Lit.int .u64 a).wf = true) : isU a = true := by
  simp [Lit.wf, IntKind.min, IntKind.max, IntKind.bits, IntKind.signed] at h
  exact isU_iff.2 (by omega)
theorem octs_eq (n : Int) : octs n = [n / 2 ^ 56 % 256, n / 2 ^ 48 % 256, n / 2 ^ 40 % 256, n / 2 ^ 32 % 256, n / 2 ^ 24 % 256, n / 2 ^ 16 % 256, n / 2 ^ 8 % 256, n / 2 ^ 0 % 256] := rfl
theorem shr_k (n : Int) (k : Nat) (hk : k ≤ 64) : shr .u64 n (k : Int) = n / 2 ^ k := by
  unfold shr
  rw [Int.toNat_natCast, Nat.min_eq_left (by simpa [IntKind.bits] using hk)]
/-- The eight bytes of one number. -/
theorem bytes_l1 (acc : List Int) (n : Int) (x11 : List Int) (x12 x13 : Int) (ha : acc.length ≤ 1000000) (k : Nat) :
    cohousinglaw06_bytes.l1 (k + 9) acc n 56 x11 x12 x13 = cohousinglaw06_bytes.l0 k (acc ++ octs n) x11 x12 (wrap64 (x13 + 1)) := by
  have step : ∀ (k j : Nat) (acc : List Int), j ≤ 56 → acc.length ≤ 1000010 → cohousinglaw06_bytes.l1 (k + 1) acc n (j : Int) x11 x12 x13 = cohousinglaw06_bytes.l1 k (acc ++ [n / 2 ^ j % 256]) n ((j : Int) - 8) x11 x12 x13 := by
    intro k j acc hj hl
    simp only [cohousinglaw06_bytes.l1]
    rw [if_pos (by omega), if_pos (by omega), if_pos (by omega), shr_k n j (by omega), wrap_id (by omega) (by omega)]
  have s8 := step (k + 8) 56 acc (by omega) (by omega)
  have s7 := step (k + 7) 48 (acc ++ [n / 2 ^ 56 % 256]) (by omega) (by simp; omega)
  have s6 := step (k + 6) 40 (acc ++ [n / 2 ^ 56 % 256] ++ [n / 2 ^ 48 % 256]) (by omega) (by simp; omega)
  have s5 := step (k + 5) 32 (acc ++ [n / 2 ^ 56 % 256] ++ [n / 2 ^ 48 % 256] ++ [n / 2 ^ 40 % 256]) (by omega) (by simp; omega)
  have s4 := step (k + 4) 24 (acc ++ [n / 2 ^ 56 % 256] ++ [n / 2 ^ 48 % 256] ++ [n / 2 ^ 40 % 256] ++ [n / 2 ^ 32 % 256]) (by omega) (by simp; omega)
  have s3 := step (k + 3) 16 (acc ++ [n / 2 ^ 56 % 256] ++ [n / 2 ^ 48 % 256] ++ [n / 2 ^ 40 % 256] ++ [n / 2 ^ 32 % 256] ++ [n / 2 ^ 24 % 256]) (by omega) (by simp; omega)
  have s2 := step (k + 2) 8 (acc ++ [n / 2 ^ 56 % 256] ++ [n / 2 ^ 48 % 256] ++ [n / 2 ^ 40 % 256] ++ [n / 2 ^ 32 % 256] ++ [n / 2 ^ 24 % 256] ++ [n / 2 ^ 16 % 256]) (by omega) (by simp; omega)
  have s1 := step (k + 1) 0 (acc ++ [n / 2 ^ 56 % 256] ++ [n / 2 ^ 48 % 256] ++ [n / 2 ^ 40 % 256] ++ [n / 2 ^ 32 % 256] ++ [n / 2 ^ 24 % 256] ++ [n / 2 ^ 16 % 256] ++ [n / 2 ^ 8 % 256]) (by omega) (by simp; omega)
  have e : ∀ (k : Nat) (acc : List Int), cohousinglaw06_bytes.l1 (k + 1) acc n (-8) x11 x12 x13 = cohousinglaw06_bytes.l0 k acc x11 x12 (wrap64 (x13 + 1)) := by
    intro k acc
    simp only [cohousinglaw06_bytes.l1]
    rw [if_neg (by omega)]
  refine s8.trans (s7.trans (s6.trans (s5.trans (s4.trans (s3.trans (s2.trans (s1.trans ?_)))))))
  refine (e k _).trans ?_
  rw [octs_eq]
  simp only [List.append_assoc, List.singleton_append]
  rfl
theorem bytes_one (b n : Int) (k : Nat) (hk : 20 ≤ k) : cohousinglaw06_bytes.f k b [n] = some (b :: octs n) := by
  obtain ⟨k, rfl⟩ : ∃ m, k = m + 11 := ⟨k - 11, by omega⟩
  unfold cohousinglaw06_bytes.f
  simp only [cohousinglaw06_bytes.l0]
  rw [if_pos (by simp), if_pos (by omega), if_pos (by simp), show k + 10 = (k + 1) + 9 from rfl, bytes_l1 _ _ _ _ _ (by simp)]
  simp only [cohousinglaw06_bytes.l0]
  rw [show wrap64 (0 + 1) = 1 from wrap_id (by omega) (by omega), if_neg (by simp)]
  rfl
theorem bytes_two (b n m : Int) (k : Nat) (hk : 40 ≤ k) : cohousinglaw06_bytes.f k b [n, m] = some (b :: (octs n ++ octs m)) := by
  obtain ⟨k, rfl⟩ : ∃ m, k = m + 22 := ⟨k - 22, by omega⟩
  unfold cohousinglaw06_bytes.f
  simp only [cohousinglaw06_bytes.l0]
  rw [if_pos (by simp), if_pos (by omega), if_pos (by simp), show k + 21 = (k + 12) + 9 from rfl, bytes_l1 _ _ _ _ _ (by simp)]
  rw [show wrap64 (0 + 1) = 1 from wrap_id (by omega) (by omega)]
  simp only [cohousinglaw06_bytes.l0]
  rw [if_pos (by simp), if_pos (by omega), if_pos (by simp), show k + 11 = (k + 2) + 9 from rfl, bytes_l1 _ _ _ _ _ (by rw [List.length_append, octs_len]; simp)]
  simp only [cohousinglaw06_bytes.l0]
  rw [show wrap64 (1 + 1) = 2 from wrap_id (by omega) (by omega), if_neg (by simp)]
  rfl
theorem upV_append : ∀ (a b : List Int), a.length % 2 = 0 → upV (a ++ b) = upV a ++ upV b
  | [], b, _ => rfl
  | [x], b, h => by simp at h
  | x :: y :: a, b, h => by
    show joinV x y :: upV (a ++ b) = joinV x y :: upV a ++ upV b
    rw [upV_append a b (by simp at h; omega)]
    rfl
theorem upV_take : ∀ (m : Nat) (l : List Int), 2 * m ≤ l.length → upV (l.take (2 * m)) = (upV l).take m ∧ upV (l.drop (2 * m)) = (upV l).drop m := by
  intro m l h
  have hl : (l.take (2 * m)).length = 2 * m := by rw [List.length_take]; omega
  have hu : (upV (l.take (2 * m))).length = m := by rw [upV_len, hl]; omega
  have e := upV_append (l.take (2 * m)) (l.drop (2 * m)) (by rw [hl]; omega)
  rw [List.take_append_drop] at e
  constructor
  · rw [e]
    exact ((List.take_append_of_le_length (by omega)).trans (List.take_of_length_le (by omega))).symm
  · rw [e]
    refine ((List.drop_append_of_le_length (by omega)).trans ?_).symm
    rw [show (upV (l.take (2 * m))).drop m = [] from List.drop_of_length_le (by omega), List.nil_append]
theorem topV_more : ∀ (f : Nat) (l : List Int), l.length ≤ 2 ^ f → topV (f + 1) l = topV f l
  | 0, l, h => by
    have : l.length ≤ 1 := by simpa using h
    simp only [topV]
    rw [if_neg (by omega)]
  | f + 1, l, h => by
    show (if 1 < l.length then topV (f + 1) (upV l) else rd l 0) = if 1 < l.length then topV f (upV l) else rd l 0
    rw [topV_more f (upV l) (by rw [upV_len]; rw [Nat.pow_succ] at h; omega)]
theorem topV_enough (f g : Nat) (l : List Int) (h : l.length ≤ 2 ^ f) (hg : f ≤ g) : topV g l = topV f l := by
  induction g with
  | zero => rw [show f = 0 from by omega]
  | succ g ih =>
    by_cases e : f = g + 1
    · rw [e]
    · rw [topV_more g l (Nat.le_trans h (Nat.pow_le_pow_right (by omega) (by omega))), ih (by omega)]
/-- The top of a level is the node of the tops of its two parts. -/
theorem topV_split : ∀ (j : Nat) (l : List Int), 2 ^ j < l.length → l.length ≤ 2 ^ (j + 1) → topV (j + 1) l = joinV (topV j (l.take (2 ^ j))) (topV j (l.drop (2 ^ j)))
  | 0, l, h0, h1 => by
    match l, h0, h1 with
    | [a, b], _, _ => simp [topV, upV, rd]
    | [], h0, _ => simp at h0
    | [a], h0, _ => simp at h0
    | a :: b :: c :: l, _, h1 => simp at h1
  | j + 1, l, h0, h1 => by
    have hp : 2 ^ (j + 1) = 2 * 2 ^ j := by rw [Nat.pow_succ]; omega
    have hp2 : 2 ^ (j + 1 + 1) = 2 * 2 ^ (j + 1) := by rw [Nat.pow_succ 2 (j + 1)]; omega
    have hpos : 0 < 2 ^ j := Nat.pow_pos (by omega)
    have ih := topV_split j (upV l) (by rw [upV_len]; omega) (by rw [upV_len]; omega)
    obtain ⟨e1, e2⟩ := upV_take (2 ^ j) l (by omega)
    show (if 1 < l.length then topV (j + 1) (upV l) else rd l 0) = _
    rw [if_pos (by omega), ih, ← e1, ← e2, ← hp]
    have t1 : topV (j + 1) (l.take (2 ^ (j + 1))) = topV j (upV (l.take (2 ^ (j + 1)))) := by
      show (if 1 < (l.take (2 ^ (j + 1))).length then _ else _) = _
      rw [if_pos (by rw [List.length_take]; omega)]
    have t2 : topV (j + 1) (l.drop (2 ^ (j + 1))) = topV j (upV (l.drop (2 ^ (j + 1)))) := by
      show (if 1 < (l.drop (2 ^ (j + 1))).length then _ else _) = _
      by_cases h : 1 < (l.drop (2 ^ (j + 1))).length
      · rw [if_pos h]
      · rw [if_neg h]
        have hd : (l.drop (2 ^ (j + 1))).length = 1 := by rw [List.length_drop] at h ⊢; omega
        obtain ⟨z, hz⟩ := List.length_eq_one_iff.1 hd
        rw [hz]
        show rd [z] 0 = topV j [z]
        rw [topV_one]
        rfl
    rw [t1, t2]
theorem root_part {l : List Int} (h0 : 0 < l.length) (h1 : l.length ≤ 1024) (j : Nat) (hj : j ≤ 10) (hl : l.length ≤ 2 ^ j) : rootV l = (topV j (firstV l), 0) := by
  unfold rootV
  rw [if_neg (by omega), if_neg (by omega), topV_enough j 10 (firstV l) (by rw [firstV_len]; exact hl) hj]
theorem tree_l0 (l : List Int) (hu : AllU l) (h1 : 1 < l.length) (h2 : l.length ≤ 1024) (root : Int) (hr : root = topV 10 (firstV l)) : ∀ (d j k : Nat), 10 - j = d → j ≤ 9 → 2 ^ j < l.length → 2000 + d < k → cohousinglaw06_DigestTree.l0 k l true root ((2 ^ j : Nat) : Int) = some true
  | d, j, 0, hd, hj, hlt, hk => by omega
  | d, j, k + 1, hd, hj, hlt, hk => by
    have hp : 2 ^ (j + 1) = 2 * 2 ^ j := by rw [Nat.pow_succ]; omega
    have hle : (2 : Nat) ^ j ≤ 2 ^ 9 := Nat.pow_le_pow_right (by omega) hj
    have hpos : 0 < 2 ^ j := Nat.pow_pos (by omega)
    simp only [cohousinglaw06_DigestTree.l0]
    rw [wrap_id (by omega) (by omega), wrap_id (by omega) (by omega)]
    by_cases h : 2 ^ (j + 1) < l.length
    · have hj9 : j < 9 := by
        rcases Nat.lt_or_ge j 9 with h9 | h9
        · exact h9
        · have : j = 9 := by omega
          subst this
          have : (2 : Nat) ^ (9 + 1) = 1024 := by decide
          omega
      have ih := tree_l0 l hu h1 h2 root hr (d - 1) (j + 1) k (by omega) (by omega) h (by omega)
      rw [if_pos (by omega), show ((2 ^ j : Nat) : Int) * 2 = ((2 ^ (j + 1) : Nat) : Int) from by rw [hp]; omega]
      exact ih
    · have hd1 : AllU (l.take (2 ^ j)) := fun x hx => hu x (List.mem_of_mem_take hx)
      have hd2 : AllU (l.drop (2 ^ j)) := fun x hx => hu x (List.mem_of_mem_drop hx)
      rw [if_neg (by omega), if_pos (by omega), if_pos (by omega), Int.toNat_natCast, root_f _ hd1 _ (by omega), root_f _ hd2 _ (by omega)]
      rw [root_part (by rw [List.length_take]; omega) (by rw [List.length_take]; omega) j (by omega) (by rw [List.length_take]; omega), root_part (by rw [List.length_drop]; omega) (by rw [List.length_drop]; omega) j (by omega) (by rw [List.length_drop]; omega)]
      simp only [obs, if_true]
      rw [bytes_two _ _ _ _ (by omega)]
      simp only [obs]
      rw [sum_f _ (by simp only [List.length_cons, List.length_append, octs_len]; omega) _ (by simp only [List.length_cons, List.length_append, octs_len]; omega)]
      simp only [obs]
      congr 1
      rw [beq_iff_eq, hr]
      have hs := topV_split j (firstV l) (by rw [firstV_len]; exact hlt) (by rw [firstV_len]; omega)
      rw [topV_enough (j + 1) 10 (firstV l) (by rw [firstV_len]; omega) (by omega), hs]
      unfold firstV joinV
      rw [List.map_take, List.map_drop]
theorem tree_ev (l : List Int) (hu : AllU l) : ∃ K, ∀ k, K ≤ k → cohousinglaw06_DigestTree.f k l = some true := by
  refine ⟨3000, fun k hk => ?_⟩
  obtain ⟨k, rfl⟩ : ∃ m, k = m + 1 := ⟨k - 1, by omega⟩
  unfold cohousinglaw06_DigestTree.f cohousinglaw06_head.f
  simp only [obs, cohousinglaw06_DigestTree.j0]
  by_cases h0 : (l.length : Int) = 0
  · simp only [if_pos h0, if_true]
  by_cases h1 : (l.length : Int) > 1024
  · simp only [if_neg h0, decide_eq_true h1, if_true]
  simp only [if_neg h0, decide_eq_false h1, Bool.false_eq_true, if_false]
  have hr : rootV l = (topV 10 (firstV l), 0) := by
    unfold rootV
    rw [if_neg (by omega), if_neg (by omega)]
  rw [root_f l hu _ (by omega), hr]
  simp only [obs, if_true]
  by_cases h2 : (l.length : Int) = 1
  · rw [if_pos h2, if_pos (by omega), bytes_one _ _ _ (by omega)]
    simp only [obs]
    rw [sum_f _ (by simp only [List.length_cons, octs_len]; omega) _ (by simp only [List.length_cons, octs_len]; omega)]
    simp only [obs]
    congr 1
    rw [beq_iff_eq]
    obtain ⟨z, rfl⟩ := List.length_eq_one_iff.1 (show l.length = 1 by omega)
    show topV 10 [leafV z] = _
    rw [topV_one]
    rfl
  · rw [if_neg h2]
    exact tree_l0 l hu (by omega) (by omega) _ rfl 10 0 k (by omega) (by omega) (by simp; omega) (by omega)
end Go.Proofs.YtolgpnbjjehdiaaDoor.P
