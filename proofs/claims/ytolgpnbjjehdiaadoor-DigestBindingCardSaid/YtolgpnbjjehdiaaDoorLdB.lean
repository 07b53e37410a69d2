/- Layer 6: DigestBinding. -/
import Derived.Test.YtolgpnbjjehdiaaDoorPd3
import Derived.Test.YtolgpnbjjehdiaaDoorPd6
import Derived.Lib.Bytes
import Derived.Test.YtolgpnbjjehdiaaDoorPx13
set_option linter.unusedSimpArgs false
set_option linter.unusedVariables false
namespace Go.Proofs.YtolgpnbjjehdiaaDoor.P
open Go Go.RowKit Go.Proofs.YtolgpnbjjehdiaaDoorW.PrintWords Go.Proofs.YtolgpnbjjehdiaaDoorW.PrintLast Go.Proofs.YtolgpnbjjehdiaaDoorW.PrintMore

theorem wf_u64 {a : Int} (h : (Lit.int .u64 a).wf = true) : isU a = true := by
  simp [Lit.wf, IntKind.min, IntKind.max, IntKind.bits, IntKind.signed] at h
  exact isU_iff.2 (by omega)
def isB (x : Int) : Prop := 0 ≤ x ∧ x < 256
theorem str_inj : ∀ (a b : List Int), (∀ x ∈ a, isB x) → (∀ x ∈ b, isB x) → a.map (fun n => UInt8.ofNat n.toNat) = b.map (fun n => UInt8.ofNat n.toNat) → a = b
  | [], [], _, _, _ => rfl
  | [], _ :: _, _, _, h => by simp at h
  | _ :: _, [], _, _, h => by simp at h
  | x :: a, y :: b, ha, hb, h => by
    simp only [List.map_cons, List.cons.injEq] at h
    have hx := ha x (by simp)
    have hy := hb y (by simp)
    have e : x.toNat = y.toNat := by
      have := congrArg UInt8.toNat h.1
      rw [UInt8.toNat_ofNat', UInt8.toNat_ofNat'] at this
      unfold isB at hx hy
      omega
    rw [str_inj a b (fun z hz => ha z (by simp [hz])) (fun z hz => hb z (by simp [hz])) h.2]
    unfold isB at hx hy
    rw [show x = y from by omega]
theorem str_eq {a b : List Int} (ha : ∀ x ∈ a, isB x) (hb : ∀ x ∈ b, isB x) : (strOfNums a).toList = (strOfNums b).toList ↔ a = b := by
  constructor
  · intro h
    rw [Lib.strOfNums_toList, Lib.strOfNums_toList] at h
    exact str_inj a b ha hb h
  · intro h; rw [h]
theorem octs_lit (n : Int) : octs n = [n / 72057594037927936 % 256, n / 281474976710656 % 256, n / 1099511627776 % 256, n / 4294967296 % 256, n / 16777216 % 256, n / 65536 % 256, n / 256 % 256, n / 1 % 256] := rfl
theorem octs_inj {x y : Int} (hx : isU x = true) (hy : isU y = true) (h : octs x = octs y) : x = y := by
  obtain ⟨x0, x1⟩ := isU_iff.1 hx
  obtain ⟨y0, y1⟩ := isU_iff.1 hy
  rw [octs_lit, octs_lit] at h
  simp only [List.cons.injEq, and_true] at h
  obtain ⟨h7, h6, h5, h4, h3, h2, h1, h0⟩ := h
  omega
theorem octs_B (n : Int) : ∀ x ∈ octs n, isB x := by
  intro x hx
  unfold octs at hx
  obtain ⟨j, _, rfl⟩ := List.mem_map.1 hx
  unfold oct isB
  omega
theorem node_B (b n m : Int) (hb : isB b) : ∀ x ∈ b :: (octs n ++ octs m), isB x := by
  intro x hx
  rcases List.mem_cons.1 hx with rfl | hx
  · exact hb
  · rcases List.mem_append.1 hx with hx | hx
    · exact octs_B n x hx
    · exact octs_B m x hx
theorem node_inj {a b c d : Int} (ha : isU a = true) (hb : isU b = true) (hc : isU c = true) (hd : isU d = true) (h : (1 : Int) :: (octs a ++ octs b) = 1 :: (octs c ++ octs d)) : a = c ∧ b = d := by
  simp only [List.cons.injEq, true_and] at h
  obtain ⟨h1, h2⟩ := List.append_inj h (by rw [octs_len, octs_len])
  exact ⟨octs_inj ha hc h1, octs_inj hb hd h2⟩
theorem even_iff (i : Nat) : (Int.tmod (i : Int) 2 = 0) ↔ ¬ i % 2 = 1 := by
  rw [Int.tmod_eq_emod_of_nonneg (by omega)]; omega
theorem drop_cons {l : List Int} {u : Nat} (h : u < l.length) : l.drop u = rd l (u : Nat) :: l.drop (u + 1) := by
  rw [rd_get h, List.getElem_cons_drop]
section
variable (root : Int) (path beside : List Int)
/-- What is to be shown of the loop, at f levels. -/
def At0 (f : Nat) : Prop := ∀ (k i n u : Nat) (a b : List Int), u ≤ path.length → i < n → n ≤ 2 ^ f → f ≤ 10 → 1000 + 10 * f < k → (∀ x ∈ a, isB x) → (∀ x ∈ b, isB x) → a.length ≤ 100 → b.length ≤ 100 →
  wayV f root i n (path.drop u) (sumB a) = true → wayV f root i n (beside.drop u) (sumB b) = true → (a ≠ b ∨ path.drop u ≠ beside.drop u) → cohousinglaw06_clash.l0 k (i : Int) (n : Int) path beside a b (u : Int) = some true
def At1 (f : Nat) : Prop := ∀ (k i n u : Nat) (x y : Int), u ≤ path.length → i < n → n ≤ 2 ^ f → f ≤ 10 → 1000 + 10 * f < k + 5 → isU x = true → isU y = true →
  wayV f root i n (path.drop u) x = true → wayV f root i n (beside.drop u) y = true → (x ≠ y ∨ path.drop u ≠ beside.drop u) → cohousinglaw06_clash.l1 k (i : Int) (n : Int) path beside (u : Int) x y = some true
variable {root path beside}
theorem at0_of (f : Nat) (h : At1 root path beside f) : At0 root path beside f := by
  intro k i n u a b hu hi hn hf hk ha hb hal hbl wa wb hne
  obtain ⟨k, rfl⟩ : ∃ m, k = m + 2 := ⟨k - 2, by omega⟩
  simp only [cohousinglaw06_clash.l0]
  rw [sum_f a (by omega) _ (by omega), sum_f b (by omega) _ (by omega)]
  simp only [obs]
  by_cases hab : a = b
  · rw [if_pos ((str_eq ha hb).2 hab)]
    simp only [cohousinglaw06_clash.j1, Bool.false_eq_true, if_false]
    exact h k i n u _ _ hu hi hn hf (by omega) (isU_sum _) (isU_sum _) wa wb (.inr (hne.resolve_left (fun h => h hab)))
  · rw [if_neg (fun h => hab ((str_eq ha hb).1 h))]
    by_cases hs : sumB a = sumB b
    · have e : (sumB a == sumB b) = true := by rw [beq_iff_eq]; exact hs
      rw [e]
      simp only [cohousinglaw06_clash.j1, if_true]
    · have e : (sumB a == sumB b) = false := by rw [beq_eq_false_iff_ne]; exact hs
      rw [e]
      simp only [cohousinglaw06_clash.j1, Bool.false_eq_true, if_false]
      exact h k i n u _ _ hu hi hn hf (by omega) (isU_sum _) (isU_sum _) wa wb (.inl hs)
theorem end_absurd {x y : Int} {P B : List Int} (h1 : (decide (P.length = 0) && (x == root)) = true) (h2 : (decide (B.length = 0) && (y == root)) = true) (hne : x ≠ y ∨ P ≠ B) : False := by
  simp only [Bool.and_eq_true, decide_eq_true_eq, beq_iff_eq, List.length_eq_zero_iff] at h1 h2
  rcases hne with h | h
  · exact h (h1.2.trans h2.2.symm)
  · exact h (h1.1.trans h2.1.symm)
theorem at1_all (hl : path.length = beside.length) (hlen : path.length ≤ 1000) (hp : AllU path) (hb : AllU beside) : ∀ f, At1 root path beside f
  | 0 => by
    intro k i n u x y hu hi hn hf hk hx hy wx wy hne
    simp only [wayV] at wx wy
    exact (end_absurd wx wy hne).elim
  | f + 1 => by
    have ih1 := at1_all hl hlen hp hb f
    have ih0 := at0_of f ih1
    intro k i n u x y hu hi hn hf hk hx hy wx wy hne
    have h2 : (2 : Nat) ^ (f + 1) ≤ 2 ^ 10 := Nat.pow_le_pow_right (by omega) hf
    simp only [wayV] at wx wy
    by_cases h : 1 < n
    · rw [if_pos h] at wx wy
      obtain ⟨k, rfl⟩ : ∃ m, k = m + 3 := ⟨k - 3, by omega⟩
      have hn2 : (n + 1) / 2 ≤ 2 ^ f := by rw [Nat.pow_succ] at hn; omega
      simp only [cohousinglaw06_clash.l1]
      rw [if_pos (by omega)]
      by_cases hs : sib i ≥ n
      · rw [if_pos hs] at wx wy
        have hev : ¬ i % 2 = 1 ∧ i + 1 ≥ n := by unfold sib at hs; split at hs <;> omega
        rw [if_pos ((even_iff i).2 hev.1), wrapN i (by omega), if_pos (by omega), half i (by omega), half1 n (by omega)]
        exact ih1 (k + 2) (i / 2) ((n + 1) / 2) u x y hu (by omega) hn2 (by omega) (by omega) hx hy wx wy hne
      · rw [if_neg hs] at wx wy
        have hul : u < path.length := by
          rcases Nat.lt_or_ge u path.length with h3 | h3
          · exact h3
          · rw [List.drop_of_length_le h3] at wx
            cases wx
        rw [drop_cons hul] at wx hne
        rw [drop_cons (show u < beside.length by omega)] at wy hne
        have hpu := hp _ (rd_mem hul)
        have hbu := hb _ (rd_mem (show u < beside.length by omega))
        have hj3 : cohousinglaw06_clash.j3 (k + 2) (i : Int) (n : Int) path beside (u : Int) x y = some true := by
          simp only [cohousinglaw06_clash.j3]
          rw [if_neg (by omega), if_neg (by omega), decide_eq_false (by omega)]
          simp only [cohousinglaw06_clash.j4, Bool.false_eq_true, if_false]
          rw [half i (by omega), half1 n (by omega), wrapN u (by omega)]
          by_cases ho : i % 2 = 1
          · rw [if_pos ((odd_iff i).2 ho), if_pos (by omega), if_pos (by omega), bytes_two _ _ _ _ (by omega)]
            simp only [obs]
            rw [if_pos (by omega), bytes_two _ _ _ _ (by omega)]
            simp only [obs]
            simp only [if_pos ho] at wx wy
            refine ih0 k (i / 2) ((n + 1) / 2) (u + 1) _ _ (by omega) (by omega) hn2 (by omega) (by omega) (node_B _ _ _ ⟨by omega, by omega⟩) (node_B _ _ _ ⟨by omega, by omega⟩) (by simp [octs_len]) (by simp [octs_len]) wx wy ?_
            by_cases hps : path.drop (u + 1) = beside.drop (u + 1)
            · left
              intro he
              obtain ⟨e1, e2⟩ := node_inj hpu hx hbu hy he
              rcases hne with h4 | h4
              · exact h4 e2
              · exact h4 (by rw [e1, hps])
            · exact .inr hps
          · rw [if_neg (fun h => ho ((odd_iff i).1 h)), if_pos (by omega), if_pos (by omega), bytes_two _ _ _ _ (by omega)]
            simp only [obs]
            rw [if_pos (by omega), bytes_two _ _ _ _ (by omega)]
            simp only [obs]
            simp only [if_neg ho] at wx wy
            refine ih0 k (i / 2) ((n + 1) / 2) (u + 1) _ _ (by omega) (by omega) hn2 (by omega) (by omega) (node_B _ _ _ ⟨by omega, by omega⟩) (node_B _ _ _ ⟨by omega, by omega⟩) (by simp [octs_len]) (by simp [octs_len]) wx wy ?_
            by_cases hps : path.drop (u + 1) = beside.drop (u + 1)
            · left
              intro he
              obtain ⟨e1, e2⟩ := node_inj hx hpu hy hbu he
              rcases hne with h4 | h4
              · exact h4 e1
              · exact h4 (by rw [e2, hps])
            · exact .inr hps
        by_cases ho : i % 2 = 1
        · rw [if_neg (fun h => ((even_iff i).1 h) ho)]
          exact hj3
        · have hge : ¬ i + 1 ≥ n := by unfold sib at hs; rw [if_neg ho] at hs; exact hs
          rw [if_pos ((even_iff i).2 ho), wrapN i (by omega), if_neg (by omega)]
          exact hj3
    · rw [if_neg h] at wx wy
      exact (end_absurd wx wy hne).elim
end
/-- How many elements a way up has. -/
def cntV : Nat → Nat → Nat → Nat
  | 0, _, _ => 0
  | f + 1, i, n => if 1 < n then (if sib i ≥ n then 0 else 1) + cntV f (i / 2) ((n + 1) / 2) else 0
theorem way_len (root : Int) : ∀ (f i n : Nat) (path : List Int) (x : Int), wayV f root i n path x = true → path.length = cntV f i n
  | 0, i, n, path, x, h => by
    simp only [wayV, Bool.and_eq_true, decide_eq_true_eq] at h
    exact h.1
  | f + 1, i, n, path, x, h => by
    simp only [wayV] at h
    simp only [cntV]
    by_cases h1 : 1 < n
    · rw [if_pos h1] at h ⊢
      by_cases hs : sib i ≥ n
      · rw [if_pos hs] at h ⊢
        rw [Nat.zero_add]
        exact way_len root f _ _ _ _ h
      · rw [if_neg hs] at h ⊢
        cases path with
        | nil => cases h
        | cons p ps =>
          have := way_len root f _ _ _ _ h
          rw [List.length_cons, this]
          omega
    · rw [if_neg h1] at h ⊢
      simp only [Bool.and_eq_true, decide_eq_true_eq] at h
      exact h.1
theorem path_cnt : ∀ (f i : Nat) (l : List Int), (pathV f i l).length = cntV f i l.length
  | 0, i, l => rfl
  | f + 1, i, l => by
    simp only [pathV, cntV]
    by_cases h1 : 1 < l.length
    · rw [if_pos h1, if_pos h1, List.length_append, path_cnt f, upV_len]
      by_cases hs : sib i < l.length
      · rw [if_pos hs, if_neg (by omega)]; rfl
      · rw [if_neg hs, if_pos (by omega)]; rfl
    · rw [if_neg h1, if_neg h1]; rfl
theorem Same_l0 (a b : List Int) (hl : a.length = b.length) (hb : a.length ≤ 100000) : ∀ (d k j : Nat), a.length - j = d → j ≤ a.length → d < k → cohousingref06_Same.l0 k a b (j : Int) = some (decide (a.drop j = b.drop j))
  | d, 0, j, hd, hj, hk => by omega
  | 0, k + 1, j, hd, hj, hk => by
    simp only [cohousingref06_Same.l0]
    rw [if_neg (by omega), List.drop_of_length_le (by omega), List.drop_of_length_le (by omega)]
    rfl
  | d + 1, k + 1, j, hd, hj, hk => by
    have ih := Same_l0 a b hl hb d k (j + 1) (by omega) (by omega) (by omega)
    simp only [cohousingref06_Same.l0]
    rw [if_pos (by omega), if_pos (by omega), if_pos (by omega), drop_cons (show j < a.length by omega), drop_cons (show j < b.length by omega)]
    by_cases h : rd a (j : Nat) = rd b (j : Nat)
    · rw [if_pos h, wrapN j (by omega), ih, h]
      congr 1
      simp only [List.cons.injEq, true_and]
    · rw [if_neg h]
      congr 1
      symm
      rw [decide_eq_false_iff_not]
      intro e
      exact h (List.cons.inj e).1
theorem Same_f (a b : List Int) (ha : a.length ≤ 100000) (k : Nat) (hk : a.length < k) : cohousingref06_Same.f k a b = some (decide (a = b)) := by
  unfold cohousingref06_Same.f
  by_cases h : a.length = b.length
  · rw [if_pos (by omega)]
    exact Same_l0 a b h ha a.length k 0 (by omega) (by omega) (by omega)
  · rw [if_neg (by omega)]
    congr 1
    symm
    rw [decide_eq_false_iff_not]
    intro e
    exact h (by rw [e])
theorem binding_ev (l : List Int) (at_ leaf : Int) (path : List Int) (hu : AllU l) (hleaf : isU leaf = true) (hp : AllU path) : ∃ K, ∀ k, K ≤ k → cohousinglaw06_DigestBinding.f k l at_ leaf path = some true := by
  refine ⟨5000, fun k hk => ?_⟩
  obtain ⟨k, rfl⟩ : ∃ m, k = m + 2 := ⟨k - 2, by omega⟩
  unfold cohousinglaw06_DigestBinding.f cohousinglaw06_head.f
  simp only [obs, cohousinglaw06_DigestBinding.j0]
  by_cases h0 : (l.length : Int) = 0
  · simp only [if_pos h0, if_true]
  by_cases h1 : (l.length : Int) > 1024
  · simp only [if_neg h0, decide_eq_true h1, if_true]
  simp only [if_neg h0, decide_eq_false h1, Bool.false_eq_true, if_false]
  obtain ⟨i, hi, hie⟩ := idx_mod at_ l.length (by omega) (by omega)
  have hpl := pathV_len 10 i (firstV l)
  have hpu := allU_path 10 i (firstV l) (allU_map l)
  have hlf := hu _ (rd_mem hi)
  have hown := check_own hi (show l.length ≤ 1024 by omega)
  have hcnt := path_cnt 10 i (firstV l)
  rw [firstV_len] at hcnt
  rw [hie, root_f l hu _ (by omega), path_f l _ hu _ (by omega), rootV_ok (by omega) (by omega), pathR_ok hi (by omega)]
  simp only [obs, if_true, bne_self_eq_false]
  generalize pathV 10 i (firstV l) = p at *
  generalize topV 10 (firstV l) = root at *
  simp only [cohousinglaw06_DigestBinding.j1, Bool.false_eq_true, if_false]
  rw [check_f _ _ _ _ _ hleaf hp _ (by omega)]
  simp only [obs]
  cases hc : checkV root leaf (i : Int) (l.length : Int) path with
  | false => simp only [Bool.false_eq_true, if_false]
  | true =>
    simp only [if_true]
    rw [if_pos (by omega), if_pos (by omega)]
    unfold checkV at hc hown
    rw [if_neg (by omega), Int.toNat_natCast, Int.toNat_natCast] at hc hown
    have hlen : path.length = p.length := by rw [way_len _ _ _ _ _ _ hc, hcnt]
    have hclash : leaf ≠ rd l (i : Nat) ∨ path ≠ p → cohousinglaw06_clash.f k leaf (rd l (i : Nat)) (i : Int) (l.length : Int) path p = some true := by
      intro hne
      unfold cohousinglaw06_clash.f
      rw [bytes_one _ _ _ (by omega)]
      simp only [obs]
      rw [bytes_one _ _ _ (by omega)]
      simp only [obs]
      have hb0 : ∀ n, ∀ x ∈ (0 : Int) :: octs n, isB x := by
        intro n x hx
        rcases List.mem_cons.1 hx with rfl | hx
        · exact ⟨by omega, by omega⟩
        · exact octs_B n x hx
      refine at0_of 10 (at1_all hlen (by omega) hp hpu 10) k i l.length 0 _ _ (by omega) hi (by omega) (by omega) (by omega) (hb0 _) (hb0 _) (by simp [octs_len]) (by simp [octs_len]) hc hown ?_
      rcases hne with h | h
      · left
        intro e
        exact h (octs_inj hleaf hlf (List.cons.inj e).2)
      · exact .inr h
    by_cases hle : leaf = rd l (i : Nat)
    · rw [if_pos hle, Same_f _ _ (by omega) _ (by omega)]
      simp only [obs]
      by_cases hpp : path = p
      · rw [decide_eq_true hpp]
        simp only [if_true]
      · rw [decide_eq_false hpp]
        simp only [Bool.false_eq_true, if_false]
        rw [if_pos (by omega), hclash (.inr hpp)]
        rfl
    · rw [if_neg hle, if_pos (by omega), hclash (.inl hle)]
      rfl
end Go.Proofs.YtolgpnbjjehdiaaDoor.P
