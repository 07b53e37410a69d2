/- Layer 6: paths, and ways up a tree. -/
import Derived.Test.YtolgpnbjjehdiaaDoorPd
import Derived.Test.YtolgpnbjjehdiaaDoorPx2
import Derived.Test.YtolgpnbjjehdiaaDoorXcheck
set_option linter.unusedSimpArgs false
set_option linter.unusedVariables false
namespace Go.Proofs.YtolgpnbjjehdiaaDoor.P
open Go Go.RowKit Go.Proofs.YtolgpnbjjehdiaaDoorW.PrintWords Go.Proofs.YtolgpnbjjehdiaaDoorW.PrintLast Go.Proofs.YtolgpnbjjehdiaaDoorW.PrintMore

/-- The index beside another one. -/
def sib (i : Nat) : Nat := if i % 2 = 1 then i - 1 else i + 1
theorem xor_one (i : Nat) : i ^^^ 1 = sib i := by
  have h1 : (i ^^^ 1) / 2 = i / 2 := by rw [Nat.xor_div_two]; simp
  have h2 : (i ^^^ 1) % 2 = 1 ↔ ¬ i % 2 = 1 := by
    have h := Nat.testBit_xor i 1 0
    rw [Nat.testBit_zero, Nat.testBit_zero] at h
    by_cases h0 : i % 2 = 1
    · simp [h0] at h ⊢
    · simp [h0] at h ⊢
  unfold sib
  split <;> omega
theorem xor_i64 (i : Nat) (hi : i < 9223372036854775807) : Go.bits .xor .i64 (i : Int) 1 = (sib i : Int) := by
  have hs := xor_one i
  have hs2 : sib i ≤ i + 1 := by unfold sib; split <;> omega
  have e : (BitVec.ofInt IntKind.i64.bits (i : Int) ^^^ BitVec.ofInt IntKind.i64.bits 1).toNat = sib i := by
    rw [BitVec.toNat_xor, BitVec.toNat_ofInt, BitVec.toNat_ofInt]
    show ((i : Int) % 18446744073709551616).toNat ^^^ 1 = sib i
    rw [show ((i : Int) % 18446744073709551616).toNat = i from by omega, hs]
  unfold Go.bits
  simp only [e]
  rw [IntKind.wrap_i64]
  omega
theorem half (i : Nat) (hi : i < 9223372036854775807) : wrap64 (Int.tdiv (i : Int) 2) = ((i / 2 : Nat) : Int) := by
  rw [Int.tdiv_eq_ediv_of_nonneg (by omega), wrap_id (by omega) (by omega)]
  omega
theorem half1 (n : Nat) (hi : n < 9223372036854775806) : wrap64 (Int.tdiv (wrap64 ((n : Int) + 1)) 2) = (((n + 1) / 2 : Nat) : Int) := by
  rw [wrapN n (by omega), half (n + 1) (by omega)]
theorem odd_iff (i : Nat) : (Int.tmod (i : Int) 2 = 1) ↔ i % 2 = 1 := by
  rw [Int.tmod_eq_emod_of_nonneg (by omega)]; omega
/-- The nodes beside the way up. -/
def pathV : Nat → Nat → List Int → List Int
  | 0, _, _ => []
  | f + 1, i, l => if 1 < l.length then (if sib i < l.length then [rd l (sib i : Nat)] else []) ++ pathV f (i / 2) (upV l) else []
theorem pathV_len : ∀ (f i : Nat) (l : List Int), (pathV f i l).length ≤ f
  | 0, _, _ => by simp [pathV]
  | f + 1, i, l => by
    unfold pathV
    have h := pathV_len f (i / 2) (upV l)
    split
    · rw [List.length_append]
      split <;> simp <;> omega
    · simp
theorem path_l0 : ∀ (f k i : Nat) (l acc : List Int), AllU l → l.length ≤ 2 ^ f → f ≤ 11 → i < 2000 → acc.length + f ≤ 1000 → f < k → digest_Path.l0 k (i : Int) l acc = some (acc ++ pathV f i l, 0)
  | f, 0, i, l, acc, hu, hl, hf, hi, ha, hk => by omega
  | 0, k + 1, i, l, acc, hu, hl, hf, hi, ha, hk => by
    have : l.length ≤ 1 := by simpa using hl
    simp only [digest_Path.l0, pathV]
    rw [if_neg (by omega), List.append_nil]
  | f + 1, k + 1, i, l, acc, hu, hl, hf, hi, ha, hk => by
    have h2 : (2 : Nat) ^ (f + 1) ≤ 2 ^ 11 := Nat.pow_le_pow_right (by omega) hf
    have ih := fun acc' (h : acc'.length + f ≤ 1000) => path_l0 f k (i / 2) (upV l) acc' (allU_up l hu) (by rw [upV_len]; rw [Nat.pow_succ] at hl; omega) (by omega) (by omega) h (by omega)
    simp only [digest_Path.l0, pathV]
    rw [xor_i64 i (by omega), half i (by omega)]
    by_cases h : 1 < l.length
    · rw [if_pos (by omega), if_pos h, up_f l hu (by omega)]
      by_cases hs : sib i < l.length
      · rw [if_pos (by omega), if_pos (by omega), if_pos (by omega), if_pos hs]
        simp only [obs]
        rw [ih _ (by rw [List.length_append]; simp; omega), List.append_assoc]
      · rw [if_neg (by omega), if_neg hs]
        simp only [obs, List.nil_append]
        rw [ih _ (by omega)]
    · rw [if_neg (by omega), if_neg h, List.append_nil]
def pathR (l : List Int) (i : Int) : List Int × Int := if l.length = 0 then ([], 1) else if l.length > 1024 then ([], 2) else if 0 ≤ i ∧ i < l.length then (pathV 10 i.toNat (firstV l), 0) else ([], 1)
theorem path_f (l : List Int) (i : Int) (hu : AllU l) (k : Nat) (hk : 1200 ≤ k) : digest_Path.f k l i = some (pathR l i) := by
  obtain ⟨k, rfl⟩ : ∃ m, k = m + 1 := ⟨k - 1, by omega⟩
  unfold digest_Path.f pathR
  rw [first_f l hu _ (by omega)]
  simp only [obs, digest_Path.j0]
  by_cases h0 : l.length = 0
  · simp only [if_pos h0]; rfl
  · simp only [if_neg h0]
    by_cases h1 : l.length > 1024
    · simp only [if_pos h1]; rfl
    · simp only [if_neg h1, if_true]
      by_cases h2 : i < 0
      · have hc : ¬ (0 ≤ i ∧ i < (l.length : Int)) := by omega
        simp only [if_pos h2, if_neg hc]
      · by_cases h3 : i ≥ (l.length : Int)
        · have hc : ¬ (0 ≤ i ∧ i < (l.length : Int)) := by omega
          simp only [if_neg h2, if_neg hc, decide_eq_true h3, if_true]
        · have hc : 0 ≤ i ∧ i < (l.length : Int) := by omega
          simp only [if_neg h2, if_pos hc, decide_eq_false h3, Bool.false_eq_true, if_false]
          obtain ⟨n, rfl⟩ := Int.eq_ofNat_of_zero_le (show 0 ≤ i by omega)
          rw [Int.toNat_natCast]
          have h := path_l0 10 k n (firstV l) [] (allU_map l) (by rw [firstV_len]; omega) (by omega) (by omega) (by simp) (by omega)
          rw [List.nil_append] at h
          exact h
/-- A way up: whether a path leads from a node to a root. -/
def wayV : Nat → Int → Nat → Nat → List Int → Int → Bool
  | 0, root, _, _, path, x => decide (path.length = 0) && (x == root)
  | f + 1, root, i, n, path, x =>
    if 1 < n then
      if sib i ≥ n then wayV f root (i / 2) ((n + 1) / 2) path x
      else match path with
        | [] => false
        | p :: ps => wayV f root (i / 2) ((n + 1) / 2) ps (if i % 2 = 1 then joinV p x else joinV x p)
    else decide (path.length = 0) && (x == root)
theorem check_l0 (root : Int) : ∀ (f k i n : Nat) (path : List Int) (x : Int), AllU path → isU x = true → n ≤ 2 ^ f → f ≤ 11 → i < 2000 → f < k → Z.digest_Check.l0 k root (i : Int) (n : Int) path x = some (wayV f root i n path x)
  | f, 0, i, n, path, x, hp, hx, hn, hf, hi, hk => by omega
  | 0, k + 1, i, n, path, x, hp, hx, hn, hf, hi, hk => by
    have : n ≤ 1 := by simpa using hn
    simp only [Z.digest_Check.l0, wayV]
    rw [if_neg (by omega)]
    by_cases h : path.length = 0
    · rw [if_pos (by omega), decide_eq_true h, Bool.true_and]
    · rw [if_neg (by omega), decide_eq_false h, Bool.false_and]
  | f + 1, k + 1, i, n, path, x, hp, hx, hn, hf, hi, hk => by
    have h2 : (2 : Nat) ^ (f + 1) ≤ 2 ^ 11 := Nat.pow_le_pow_right (by omega) hf
    have ih := fun p y (hp : AllU p) (hy : isU y = true) => check_l0 root f k (i / 2) ((n + 1) / 2) p y hp hy (by rw [Nat.pow_succ] at hn; omega) (by omega) (by omega) (by omega)
    simp only [Z.digest_Check.l0, wayV]
    rw [xor_i64 i (by omega), half i (by omega), half1 n (by omega)]
    by_cases h : 1 < n
    · rw [if_pos (by omega), if_pos h]
      by_cases hs : sib i ≥ n
      · rw [if_pos (by omega), if_pos hs, ih path x hp hx]
      · rw [if_neg (by omega), if_neg hs]
        cases path with
        | nil => rw [if_pos (by simp)]
        | cons p ps =>
          have hpu := hp p (by simp)
          have hps : AllU ps := fun y hy => hp y (by simp [hy])
          rw [if_neg (by simp; omega)]
          have hrd : rd (p :: ps) 0 = p := rfl
          rw [hrd, join_f p x hpu hx, join_f x p hx hpu]
          simp only [obs, List.drop_succ_cons, List.drop_zero]
          by_cases ho : i % 2 = 1
          · rw [if_pos ((odd_iff i).2 ho), if_pos (by first | (simp; done) | (simp; omega)), if_pos (by first | (simp; done) | (simp; omega)), ih ps _ hps (isU_join _ _), if_pos ho]
          · rw [if_neg (fun h => ho ((odd_iff i).1 h)), if_pos (by first | (simp; done) | (simp; omega)), if_pos (by first | (simp; done) | (simp; omega)), ih ps _ hps (isU_join _ _), if_neg ho]
    · rw [if_neg (by omega), if_neg h]
      by_cases h0 : path.length = 0
      · rw [if_pos (by omega), decide_eq_true h0, Bool.true_and]
      · rw [if_neg (by omega), decide_eq_false h0, Bool.false_and]
def checkV (root leaf i n : Int) (path : List Int) : Bool := if n < 1 ∨ n > 1024 ∨ i < 0 ∨ i ≥ n then false else wayV 10 root i.toNat n.toNat path (leafV leaf)
theorem check_f (root leaf i n : Int) (path : List Int) (hl : isU leaf = true) (hp : AllU path) (k : Nat) (hk : 100 ≤ k) : digest_Check.f k root leaf i n path = some (checkV root leaf i n path) := by
  obtain ⟨k, rfl⟩ : ∃ m, k = m + 1 := ⟨k - 1, by omega⟩
  unfold digest_Check.f Z.digest_Check.f checkV
  simp only [Z.digest_Check.j0, if_true]
  by_cases h0 : n < 1
  · rw [if_pos h0, if_pos (.inl h0)]
  rw [if_neg h0]
  by_cases h1 : n > 1024
  · rw [if_pos h1, if_pos (.inr (.inl h1))]
  rw [if_neg h1]
  by_cases h2 : i < 0
  · rw [if_pos h2, if_pos (.inr (.inr (.inl h2)))]
  rw [if_neg h2]
  by_cases h3 : i ≥ n
  · have hc : n < 1 ∨ n > 1024 ∨ i < 0 ∨ i ≥ n := .inr (.inr (.inr h3))
    simp only [decide_eq_true h3, if_pos hc, if_true]
  have hc : ¬ (n < 1 ∨ n > 1024 ∨ i < 0 ∨ i ≥ n) := by omega
  simp only [decide_eq_false h3, if_neg hc, leaf_f leaf hl]
  obtain ⟨a, rfl⟩ := Int.eq_ofNat_of_zero_le (show 0 ≤ i by omega)
  obtain ⟨b, rfl⟩ := Int.eq_ofNat_of_zero_le (show 0 ≤ n by omega)
  simp only [obs, Bool.false_eq_true, if_false, Int.toNat_natCast]
  exact check_l0 root 10 k a b path _ hp (isU_leaf _) (by omega) (by omega) (by omega) (by omega)
theorem upV_get : ∀ (l : List Int) (i : Nat), i < (upV l).length → rd (upV l) (i : Nat) = if 2 * i + 1 < l.length then joinV (rd l (2 * i : Nat)) (rd l (2 * i + 1 : Nat)) else rd l (2 * i : Nat)
  | [], i, h => by simp [upV] at h
  | [a], i, h => by
    have : i = 0 := by simp [upV] at h; omega
    subst this
    simp [upV, rd]
  | a :: b :: l, 0, h => by
    rw [if_pos (by simp)]
    simp [upV, rd]
  | a :: b :: l, i + 1, h => by
    have hl : i < (upV l).length := by
      have : (upV (a :: b :: l)).length = (upV l).length + 1 := rfl
      omega
    have ih := upV_get l i hl
    have e : rd (upV (a :: b :: l)) ((i + 1 : Nat) : Int) = rd (upV l) (i : Nat) := by
      show rd (joinV a b :: upV l) ((i + 1 : Nat) : Int) = _
      rw [rd_nat, rd_nat]
      rfl
    rw [e, ih, show 2 * (i + 1) = 2 * i + 2 from by omega, show 2 * i + 2 + 1 = 2 * i + 1 + 2 from by omega, rd_drop2, rd_drop2]
    by_cases h1 : 2 * i + 1 < l.length
    · rw [if_pos h1, if_pos (by simp only [List.length_cons]; omega)]
    · rw [if_neg h1, if_neg (by simp only [List.length_cons]; omega)]
/-- A node's own path leads to the top. -/
theorem way_own : ∀ (f i : Nat) (l : List Int), i < l.length → wayV f (topV f l) i l.length (pathV f i l) (rd l (i : Nat)) = true ∨ 2 ^ f < l.length
  | 0, i, l, hi => by
    by_cases h : l.length ≤ 1
    · left
      have : i = 0 := by omega
      subst this
      simp [wayV, topV, pathV]
    · right; simp; omega
  | f + 1, i, l, hi => by
    by_cases h : 1 < l.length
    · rcases way_own f (i / 2) (upV l) (by rw [upV_len]; omega) with ih | ih
      · left
        have hg := upV_get l (i / 2) (by rw [upV_len]; omega)
        rw [hg, upV_len] at ih
        simp only [wayV, topV, pathV, if_pos h]
        by_cases hs : sib i ≥ l.length
        · rw [if_pos hs, if_neg (by omega), List.nil_append]
          have hev : i % 2 = 0 ∧ i + 1 ≥ l.length := by unfold sib at hs; split at hs <;> omega
          rw [if_neg (by omega), show 2 * (i / 2) = i from by omega] at ih
          exact ih
        · rw [if_neg hs, if_pos (by omega)]
          simp only [List.singleton_append]
          rw [if_pos (by unfold sib at hs; split at hs <;> omega)] at ih
          by_cases ho : i % 2 = 1
          · rw [if_pos ho]
            have e1 : 2 * (i / 2) = sib i := by unfold sib; rw [if_pos ho]; omega
            have e2 : 2 * (i / 2) + 1 = i := by omega
            rw [e2, e1] at ih
            exact ih
          · rw [if_neg ho]
            have e1 : 2 * (i / 2) = i := by omega
            have e2 : 2 * (i / 2) + 1 = sib i := by unfold sib; rw [if_neg ho]; omega
            rw [e2, e1] at ih
            exact ih
      · right
        rw [upV_len] at ih
        rw [Nat.pow_succ]
        omega
    · left
      have : i = 0 := by omega
      subst this
      simp [wayV, topV, pathV, h]
theorem allU_path : ∀ (f i : Nat) (l : List Int), AllU l → AllU (pathV f i l)
  | 0, i, l, h => fun x hx => by simp [pathV] at hx
  | f + 1, i, l, h => fun x hx => by
    unfold pathV at hx
    split at hx
    · rcases List.mem_append.1 hx with hx | hx
      · split at hx
        · next hs =>
          rw [List.mem_singleton.1 hx]
          exact h _ (rd_mem hs)
        · cases hx
      · exact allU_path f (i / 2) (upV l) (allU_up l h) x hx
    · cases hx
theorem rd_first {l : List Int} {i : Nat} (h : i < l.length) : rd (firstV l) (i : Nat) = leafV (rd l (i : Nat)) := by
  rw [rd_get (by rw [firstV_len]; exact h), rd_get h]
  simp [firstV]
/-- A leaf's own path leads to the root. -/
theorem check_own {l : List Int} {i : Nat} (hi : i < l.length) (hl : l.length ≤ 1024) : checkV (topV 10 (firstV l)) (rd l (i : Nat)) (i : Int) (l.length : Int) (pathV 10 i (firstV l)) = true := by
  unfold checkV
  rw [if_neg (by omega), Int.toNat_natCast, Int.toNat_natCast]
  rcases way_own 10 i (firstV l) (by rw [firstV_len]; exact hi) with h | h
  · rw [rd_first hi, firstV_len] at h
    exact h
  · rw [firstV_len] at h
    omega
theorem rootV_ok {l : List Int} (h0 : 0 < l.length) (h1 : l.length ≤ 1024) : rootV l = (topV 10 (firstV l), 0) := by
  unfold rootV
  rw [if_neg (by omega), if_neg (by omega)]
theorem pathR_ok {l : List Int} {i : Nat} (hi : i < l.length) (h1 : l.length ≤ 1024) : pathR l (i : Int) = (pathV 10 i (firstV l), 0) := by
  unfold pathR
  rw [if_neg (by omega), if_neg (by omega), if_pos (by omega), Int.toNat_natCast]
/-- An index out of any number. -/
theorem idx_mod (at_ : Int) (n : Nat) (h0 : 0 < n) (hn : n ≤ 1000000) : ∃ i : Nat, i < n ∧ Int.tmod (wrap64 (Int.tmod at_ (n : Int) + (n : Int))) (n : Int) = (i : Int) := by
  have hb1 : -(n : Int) < Int.tmod at_ (n : Int) := Int.lt_tmod_of_pos _ (by omega)
  have hb2 : Int.tmod at_ (n : Int) < (n : Int) := Int.tmod_lt_of_pos _ (by omega)
  rw [wrap_id (by omega) (by omega), Int.tmod_eq_emod_of_nonneg (by omega)]
  have h1 := Int.emod_nonneg (Int.tmod at_ (n : Int) + (n : Int)) (show (n : Int) ≠ 0 by omega)
  have h2 := Int.emod_lt_of_pos (Int.tmod at_ (n : Int) + (n : Int)) (show (0 : Int) < n by omega)
  exact ⟨((Int.tmod at_ (n : Int) + (n : Int)) % (n : Int)).toNat, by omega, by omega⟩
end Go.Proofs.YtolgpnbjjehdiaaDoor.P
