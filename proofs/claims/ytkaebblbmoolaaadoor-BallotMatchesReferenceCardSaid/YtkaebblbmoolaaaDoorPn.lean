/- The reference's digest of numbers is that of digest.Ints (out of chapter 8's texts). -/
import Derived.Test.YtkaebblbmoolaaaDoorXints
import Derived.Test.YtkaebblbmoolaaaDoorPbA
import Derived.Test.YtkaebblbmoolaaaDoorPx6
set_option linter.unusedSimpArgs false
set_option linter.unusedVariables false
namespace Go.Proofs.YtkaebblbmoolaaaDoor.P
open Go Go.RowKit Go.Proofs.YtkaebblbmoolaaaDoorW.PrintWords Go.Proofs.YtkaebblbmoolaaaDoorW.PrintLast Go.Proofs.YtkaebblbmoolaaaDoorW.PrintMore
theorem bytesOf_append (a b : ByteArray) : bytesOf (a ++ b) = bytesOf a ++ bytesOf b := by
  unfold bytesOf
  rw [show (a ++ b).data = a.data ++ b.data from by simp]
  simp
theorem bytesOf_one (x : Int) (h0 : 0 ≤ x) (h1 : x < 256) : bytesOf (strOfNums [x]) = [x] := by
  obtain ⟨n, rfl⟩ := Int.eq_ofNat_of_zero_le h0
  simp only [bytesOf, strOfNums_data, List.map_cons, List.map_nil, Int.toNat_natCast, UInt8.toNat_ofNat']
  rw [Nat.mod_eq_of_lt (by omega)]
theorem decF_small (d n : Nat) (h : n < 10) : decF d n = [48 + (n : Int)] := by
  cases d with
  | zero => simp only [decF, Nat.mod_eq_of_lt h]
  | succ d => simp only [decF]; rw [if_pos h]
theorem tdiv_small (n : Int) (h : n.natAbs < 10) : Int.tdiv n 10 = 0 := by
  rcases Int.le_total 0 n with h0 | h0
  · rw [Int.tdiv_eq_ediv_of_nonneg h0]; omega
  · obtain ⟨m, rfl⟩ : ∃ m : Nat, n = -(m : Int) := ⟨n.natAbs, by omega⟩
    rw [Int.neg_tdiv, Int.tdiv_eq_ediv_of_nonneg (by omega)]; omega
theorem decimal_f : ∀ (d k : Nat) (n : Int), n.natAbs < 10 ^ (d + 1) → d < k → d ≤ 100 → -9223372036854775808 ≤ n → n ≤ 9223372036854775807 →
    ∃ s, cohousingref06_Decimal.f k n = some s ∧ bytesOf s = (if n < 0 then 45 :: decF d n.natAbs else decF d n.natAbs) ∧ s.size ≤ d + 2 := by
  intro d
  induction d with
  | zero =>
    intro k n h hk hd h0 h1
    obtain ⟨k, rfl⟩ : ∃ m, k = m + 1 := ⟨k - 1, by omega⟩
    have h10 : n.natAbs < 10 := by simpa using h
    rw [decF_small _ _ h10]
    simp only [cohousingref06_Decimal.f, Option.bind_some]
    by_cases hn : n < 0
    · have e1 : wrap64 (Int.tdiv n 10) = 0 := by
        rw [tdiv_small n h10]; exact wrap_id (by omega) (by omega)
      have e2 : wrap64 (48 - n) % 256 = 48 + (n.natAbs : Int) := by rw [wrap_id (by omega) (by omega)]; omega
      rw [if_pos hn, if_pos e1, e2, strOfNums_size, if_pos (by simp), if_pos hn]
      refine ⟨_, rfl, ?_, ?_⟩
      · rw [bytesOf_append, bytesOf_one _ (by omega) (by omega)]; rfl
      · rw [ByteArray.size_append, strOfNums_size]; simp; decide
    · have e2 : wrap64 (48 + n) % 256 = 48 + (n.natAbs : Int) := by rw [wrap_id (by omega) (by omega)]; omega
      rw [if_neg hn, if_pos (by omega), e2, if_neg hn]
      exact ⟨_, rfl, bytesOf_one _ (by omega) (by omega), by rw [strOfNums_size]; simp⟩
  | succ d ih =>
    intro k n h hk hd h0 h1
    obtain ⟨k, rfl⟩ : ∃ m, k = m + 1 := ⟨k - 1, by omega⟩
    by_cases h10 : n.natAbs < 10
    · rw [decF_small _ _ h10]
      simp only [cohousingref06_Decimal.f, Option.bind_some]
      by_cases hn : n < 0
      · have e1 : wrap64 (Int.tdiv n 10) = 0 := by
          rw [tdiv_small n h10]; exact wrap_id (by omega) (by omega)
        have e2 : wrap64 (48 - n) % 256 = 48 + (n.natAbs : Int) := by rw [wrap_id (by omega) (by omega)]; omega
        rw [if_pos hn, if_pos e1, e2, strOfNums_size, if_pos (by simp), if_pos hn]
        refine ⟨_, rfl, ?_, ?_⟩
        · rw [bytesOf_append, bytesOf_one _ (by omega) (by omega)]; rfl
        · rw [ByteArray.size_append, strOfNums_size]
          have : (⟨#[45]⟩ : ByteArray).size = 1 := rfl
          simp only [List.length_cons, List.length_nil]
          omega
      · have e2 : wrap64 (48 + n) % 256 = 48 + (n.natAbs : Int) := by rw [wrap_id (by omega) (by omega)]; omega
        rw [if_neg hn, if_pos (by omega), e2, if_neg hn]
        exact ⟨_, rfl, bytesOf_one _ (by omega) (by omega), by rw [strOfNums_size]; simp⟩
    · have eF : decF (d + 1) n.natAbs = decF d (n.natAbs / 10) ++ [48 + ((n.natAbs % 10 : Nat) : Int)] := by
        simp only [decF]; rw [if_neg h10]
      have hp : n.natAbs / 10 < 10 ^ (d + 1) := by rw [Nat.pow_succ] at h; omega
      rw [eF]
      by_cases hn : n < 0
      · obtain ⟨m, rfl⟩ : ∃ m : Nat, n = -(m : Int) := ⟨n.natAbs, by omega⟩
        have hm : (-(m : Int)).natAbs = m := by omega
        rw [hm] at h10 hp ⊢
        have e0 : Int.tdiv (-(m : Int)) 10 = -((m / 10 : Nat) : Int) := by
          rw [Int.neg_tdiv, Int.tdiv_eq_ediv_of_nonneg (by omega)]; omega
        have e1 : wrap64 (Int.tdiv (-(m : Int)) 10) = -((m / 10 : Nat) : Int) := by rw [e0, wrap_id (by omega) (by omega)]
        have e2 : wrap64 (48 - Int.tmod (-(m : Int)) 10) % 256 = 48 + ((m % 10 : Nat) : Int) := by
          rw [Int.neg_tmod, Int.tmod_eq_emod_of_nonneg (by omega), wrap_id (by omega) (by omega)]
          omega
        obtain ⟨s, hs, hb, hz⟩ := ih k (-((m / 10 : Nat) : Int)) (by omega) (by omega) (by omega) (by omega) (by omega)
        rw [if_pos (by omega)] at hb
        rw [show (-((m / 10 : Nat) : Int)).natAbs = m / 10 from by omega] at hb
        simp only [cohousingref06_Decimal.f]
        rw [if_pos hn, e1, if_neg (by omega), hs, e2, if_pos hn]
        simp only [Option.bind_some, strOfNums_size, List.length_cons, List.length_nil]
        rw [if_pos (by omega)]
        refine ⟨_, rfl, ?_, ?_⟩
        · rw [bytesOf_append, bytesOf_one _ (by omega) (by omega), hb]; rfl
        · rw [ByteArray.size_append, strOfNums_size]; simp only [List.length_cons, List.length_nil]; omega
      · obtain ⟨m, rfl⟩ : ∃ m : Nat, n = (m : Int) := ⟨n.natAbs, by omega⟩
        have hm : ((m : Int)).natAbs = m := by omega
        rw [hm] at h10 hp ⊢
        have e0 : Int.tdiv (m : Int) 10 = ((m / 10 : Nat) : Int) := by
          rw [Int.tdiv_eq_ediv_of_nonneg (by omega)]; omega
        have e1 : wrap64 (Int.tdiv (m : Int) 10) = ((m / 10 : Nat) : Int) := by rw [e0, wrap_id (by omega) (by omega)]
        have e2 : wrap64 (48 + Int.tmod (m : Int) 10) % 256 = 48 + ((m % 10 : Nat) : Int) := by
          rw [Int.tmod_eq_emod_of_nonneg (by omega), wrap_id (by omega) (by omega)]
          omega
        obtain ⟨s, hs, hb, hz⟩ := ih k ((m / 10 : Nat) : Int) (by omega) (by omega) (by omega) (by omega) (by omega)
        rw [if_neg (by omega)] at hb
        rw [show (((m / 10 : Nat) : Int)).natAbs = m / 10 from by omega] at hb
        simp only [cohousingref06_Decimal.f]
        rw [if_neg hn, if_neg (by omega), e1, hs, e2, if_neg hn]
        simp only [Option.bind_some, strOfNums_size, List.length_cons, List.length_nil]
        rw [if_pos (by omega)]
        refine ⟨_, rfl, ?_, ?_⟩
        · rw [bytesOf_append, bytesOf_one _ (by omega) (by omega), hb]
        · rw [ByteArray.size_append, strOfNums_size]; simp only [List.length_cons, List.length_nil]; omega
theorem decimal_dig (k : Nat) (n : Int) (hk : 20 < k) (h : okInt n = true) : ∃ s, cohousingref06_Decimal.f k n = some s ∧ bytesOf s = digTxt n ∧ s.size ≤ 22 := by
  simp only [okInt, Bool.and_eq_true, decide_eq_true_eq] at h
  obtain ⟨s, h1, h2, h3⟩ := decimal_f 20 k n (by omega) hk (by omega) h.1 h.2
  refine ⟨s, h1, ?_, h3⟩
  rw [h2]
  unfold digTxt
  by_cases hn : n < 0
  · rw [if_pos hn, if_pos hn]
  · rw [if_neg hn, if_neg hn, show n.toNat = n.natAbs from by omega]
theorem sumB_take {l : List Int} {i : Nat} (h : i < l.length) : sumB (l.take (i + 1)) = IntKind.u64.wrap ((Go.bits .xor .u64 (sumB (l.take i)) (IntKind.u64.wrap (rd l (i : Nat)))) * 1099511628211) := by
  rw [List.take_succ_eq_append_getElem h]
  unfold sumB
  rw [List.foldl_append]
  simp [stepB, rd, List.getD_eq_getElem?_getD, List.getElem?_eq_getElem h]
theorem refSum_l0 (l : List Int) (hl : l.length < 9223372036854775807) : ∀ (d i k : Nat), l.length - i = d → i ≤ l.length → d < k → cohousingref06_Sum.l0 k l (sumB (l.take i)) (i : Nat) = some (sumB l)
  | d, i, 0, hd, hi, hk => by omega
  | 0, i, k + 1, hd, hi, hk => by
    obtain rfl : i = l.length := by omega
    simp only [cohousingref06_Sum.l0]
    rw [if_neg (by omega), List.take_length]
  | d + 1, i, k + 1, hd, hi, hk => by
    have ih := refSum_l0 l hl d (i + 1) k (by omega) (by omega) (by omega)
    simp only [cohousingref06_Sum.l0]
    rw [if_pos (by omega), if_pos (by omega), ← sumB_take (by omega), wrapN i (by omega), ih]
theorem refSum_f (l : List Int) (hl : l.length < 9223372036854775807) (k : Nat) (hk : l.length < k) : cohousingref06_Sum.f k l = some (sumB l) :=
  refSum_l0 l hl l.length 0 k (by omega) (by omega) hk
theorem refInts_l0 (l : List Int) (hl : l.length ≤ 1000000) (hok : ∀ x ∈ l, okInt x = true) : ∀ (d i k : Nat), l.length - i = d → i ≤ l.length → l.length * 23 + 40 + d < k → cohousingref06_Ints.l0 k l (txt (l.take i)) (i : Nat) = some (sumB (txt l))
  | d, i, 0, hd, hi, hk => by omega
  | 0, i, k + 1, hd, hi, hk => by
    obtain rfl : i = l.length := by omega
    have hx := txt_len l
    simp only [cohousingref06_Ints.l0]
    rw [if_neg (by omega), List.take_length, refSum_f (txt l) (by omega) k (by omega)]
    rfl
  | d + 1, i, k + 1, hd, hi, hk => by
    have ih := refInts_l0 l hl hok d (i + 1) k (by omega) (by omega) (by omega)
    have hlt : i < l.length := by omega
    obtain ⟨s, h1, h2, h3⟩ := decimal_dig k (rd l i) (by omega) (hok _ (rd_mem hlt))
    have hx := txt_len (l.take i)
    rw [List.length_take, Nat.min_eq_left (by omega)] at hx
    have hlen := bytesOf_length s
    simp only [cohousingref06_Ints.l0]
    rw [if_pos (by omega), if_pos (by omega), h1]
    simp only [Option.bind_some]
    rw [if_pos (by omega), if_pos (by rw [List.length_append]; omega), h2, ← txt_take hlt, wrapN i (by omega), ih]
theorem refInts_f (l : List Int) (hl : l.length ≤ 1000000) (hok : ∀ x ∈ l, okInt x = true) (k : Nat) (hk : l.length * 24 + 40 < k) : cohousingref06_Ints.f k l = some (sumB (txt l)) :=
  refInts_l0 l hl hok l.length 0 k (by omega) (by omega) (by omega)

end Go.Proofs.YtkaebblbmoolaaaDoor.P
