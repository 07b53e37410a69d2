/- What the reference's functions of layers 6 and 8 compute (out of chapter 8's texts). -/
import Derived.Test.YtcnkenknbmmglaaDoorGp2
import Derived.Test.YtcnkenknbmmglaaDoorPx11
import Derived.Test.YtcnkenknbmmglaaDoorPx12
import Derived.Test.YtcnkenknbmmglaaDoorPx14
import Derived.Test.YtcnkenknbmmglaaDoorPx9
import Derived.Test.YtcnkenknbmmglaaDoorPx14
set_option linter.unusedSimpArgs false
set_option linter.unusedVariables false
namespace Go.Proofs.YtcnkenknbmmglaaDoor.P
open Go Go.RowKit Go.Proofs.YtcnkenknbmmglaaDoorW.PrintWords Go.Proofs.YtcnkenknbmmglaaDoorW.PrintLast Go.Proofs.YtcnkenknbmmglaaDoorW.PrintMore
theorem refSecret_f (x : Int) : cohousingref08_secret.f x = some (secB x) := by
  unfold cohousingref08_secret.f secB
  by_cases h : 1 ≤ x
  · rw [if_pos h]; simp [h]
  · rw [if_neg (by omega)]; simp [h]
theorem bytesOf_append (a b : ByteArray) : bytesOf (a ++ b) = bytesOf a ++ bytesOf b := by
  unfold bytesOf
  rw [show (a ++ b).data = a.data ++ b.data from by simp]
  simp
theorem bytesOf_one (x : Int) (h0 : 0 ≤ x) (h1 : x < 256) : bytesOf (strOfNums [x]) = [x] := by
  obtain ⟨n, rfl⟩ := Int.eq_ofNat_of_zero_le h0
  simp only [bytesOf, strOfNums_data, List.map_cons, List.map_nil, Int.toNat_natCast, UInt8.toNat_ofNat']
  rw [Nat.mod_eq_of_lt (by omega)]
theorem decF_small (d n : Nat) (h : n < 10) : decF d n = [48 + (n : Int)] := by
  cases d with
  | zero => simp only [decF, Nat.mod_eq_of_lt h]
  | succ d => simp only [decF]; rw [if_pos h]
theorem tdiv_small (n : Int) (h : n.natAbs < 10) : Int.tdiv n 10 = 0 := by
  rcases Int.le_total 0 n with h0 | h0
  · rw [Int.tdiv_eq_ediv_of_nonneg h0]; omega
  · obtain ⟨m, rfl⟩ : ∃ m : Nat, n = -(m : Int) := ⟨n.natAbs, by omega⟩
    rw [Int.neg_tdiv, Int.tdiv_eq_ediv_of_nonneg (by omega)]; omega
theorem decimal_f : ∀ (d k : Nat) (n : Int), n.natAbs < 10 ^ (d + 1) → d < k → d ≤ 100 → -9223372036854775808 ≤ n → n ≤ 9223372036854775807 →
    ∃ s, cohousingref06_Decimal.f k n = some s ∧ bytesOf s = (if n < 0 then 45 :: decF d n.natAbs else decF d n.natAbs) ∧ s.size ≤ d + 2 := by
  intro d
  induction d with
  | zero =>
    intro k n h hk hd h0 h1
    obtain ⟨k, rfl⟩ : ∃ m, k = m + 1 := ⟨k - 1, by omega⟩
    have h10 : n.natAbs < 10 := by simpa using h
    rw [decF_small _ _ h10]
    simp only [cohousingref06_Decimal.f, Option.bind_some]
    by_cases hn : n < 0
    · have e1 : wrap64 (Int.tdiv n 10) = 0 := by
        rw [tdiv_small n h10]; exact wrap_id (by omega) (by omega)
      have e2 : wrap64 (48 - n) % 256 = 48 + (n.natAbs : Int) := by rw [wrap_id (by omega) (by omega)]; omega
      rw [if_pos hn, if_pos e1, e2, strOfNums_size, if_pos (by simp), if_pos hn]
      refine ⟨_, rfl, ?_, ?_⟩
      · rw [bytesOf_append, bytesOf_one _ (by omega) (by omega)]; rfl
      · rw [ByteArray.size_append, strOfNums_size]; simp; decide
    · have e2 : wrap64 (48 + n) % 256 = 48 + (n.natAbs : Int) := by rw [wrap_id (by omega) (by omega)]; omega
      rw [if_neg hn, if_pos (by omega), e2, if_neg hn]
      exact ⟨_, rfl, bytesOf_one _ (by omega) (by omega), by rw [strOfNums_size]; simp⟩
  | succ d ih =>
    intro k n h hk hd h0 h1
    obtain ⟨k, rfl⟩ : ∃ m, k = m + 1 := ⟨k - 1, by omega⟩
    by_cases h10 : n.natAbs < 10
    · rw [decF_small _ _ h10]
      simp only [cohousingref06_Decimal.f, Option.bind_some]
      by_cases hn : n < 0
      · have e1 : wrap64 (Int.tdiv n 10) = 0 := by
          rw [tdiv_small n h10]; exact wrap_id (by omega) (by omega)
        have e2 : wrap64 (48 - n) % 256 = 48 + (n.natAbs : Int) := by rw [wrap_id (by omega) (by omega)]; omega
        rw [if_pos hn, if_pos e1, e2, strOfNums_size, if_pos (by simp), if_pos hn]
        refine ⟨_, rfl, ?_, ?_⟩
        · rw [bytesOf_append, bytesOf_one _ (by omega) (by omega)]; rfl
        · rw [ByteArray.size_append, strOfNums_size]
          have : (⟨#[45]⟩ : ByteArray).size = 1 := rfl
          simp only [List.length_cons, List.length_nil]
          omega
      · have e2 : wrap64 (48 + n) % 256 = 48 + (n.natAbs : Int) := by rw [wrap_id (by omega) (by omega)]; omega
        rw [if_neg hn, if_pos (by omega), e2, if_neg hn]
        exact ⟨_, rfl, bytesOf_one _ (by omega) (by omega), by rw [strOfNums_size]; simp⟩
    · have eF : decF (d + 1) n.natAbs = decF d (n.natAbs / 10) ++ [48 + ((n.natAbs % 10 : Nat) : Int)] := by
        simp only [decF]; rw [if_neg h10]
      have hp : n.natAbs / 10 < 10 ^ (d + 1) := by rw [Nat.pow_succ] at h; omega
      rw [eF]
      by_cases hn : n < 0
      · obtain ⟨m, rfl⟩ : ∃ m : Nat, n = -(m : Int) := ⟨n.natAbs, by omega⟩
        have hm : (-(m : Int)).natAbs = m := by omega
        rw [hm] at h10 hp ⊢
        have e0 : Int.tdiv (-(m : Int)) 10 = -((m / 10 : Nat) : Int) := by
          rw [Int.neg_tdiv, Int.tdiv_eq_ediv_of_nonneg (by omega)]; omega
        have e1 : wrap64 (Int.tdiv (-(m : Int)) 10) = -((m / 10 : Nat) : Int) := by rw [e0, wrap_id (by omega) (by omega)]
        have e2 : wrap64 (48 - Int.tmod (-(m : Int)) 10) % 256 = 48 + ((m % 10 : Nat) : Int) := by
          rw [Int.neg_tmod, Int.tmod_eq_emod_of_nonneg (by omega), wrap_id (by omega) (by omega)]
          omega
        obtain ⟨s, hs, hb, hz⟩ := ih k (-((m / 10 : Nat) : Int)) (by omega) (by omega) (by omega) (by omega) (by omega)
        rw [if_pos (by omega)] at hb
        rw [show (-((m / 10 : Nat) : Int)).natAbs = m / 10 from by omega] at hb
        simp only [cohousingref06_Decimal.f]
        rw [if_pos hn, e1, if_neg (by omega), hs, e2, if_pos hn]
        simp only [Option.bind_some, strOfNums_size, List.length_cons, List.length_nil]
        rw [if_pos (by omega)]
        refine ⟨_, rfl, ?_, ?_⟩
        · rw [bytesOf_append, bytesOf_one _ (by omega) (by omega), hb]; rfl
        · rw [ByteArray.size_append, strOfNums_size]; simp only [List.length_cons, List.length_nil]; omega
      · obtain ⟨m, rfl⟩ : ∃ m : Nat, n = (m : Int) := ⟨n.natAbs, by omega⟩
        have hm : ((m : Int)).natAbs = m := by omega
        rw [hm] at h10 hp ⊢
        have e0 : Int.tdiv (m : Int) 10 = ((m / 10 : Nat) : Int) := by
          rw [Int.tdiv_eq_ediv_of_nonneg (by omega)]; omega
        have e1 : wrap64 (Int.tdiv (m : Int) 10) = ((m / 10 : Nat) : Int) := by rw [e0, wrap_id (by omega) (by omega)]
        have e2 : wrap64 (48 + Int.tmod (m : Int) 10) % 256 = 48 + ((m % 10 : Nat) : Int) := by
          rw [Int.tmod_eq_emod_of_nonneg (by omega), wrap_id (by omega) (by omega)]
          omega
        obtain ⟨s, hs, hb, hz⟩ := ih k ((m / 10 : Nat) : Int) (by omega) (by omega) (by omega) (by omega) (by omega)
        rw [if_neg (by omega)] at hb
        rw [show (((m / 10 : Nat) : Int)).natAbs = m / 10 from by omega] at hb
        simp only [cohousingref06_Decimal.f]
        rw [if_neg hn, if_neg (by omega), e1, hs, e2, if_neg hn]
        simp only [Option.bind_some, strOfNums_size, List.length_cons, List.length_nil]
        rw [if_pos (by omega)]
        refine ⟨_, rfl, ?_, ?_⟩
        · rw [bytesOf_append, bytesOf_one _ (by omega) (by omega), hb]
        · rw [ByteArray.size_append, strOfNums_size]; simp only [List.length_cons, List.length_nil]; omega
theorem decimal_dig (k : Nat) (n : Int) (hk : 20 < k) (h : okInt n = true) : ∃ s, cohousingref06_Decimal.f k n = some s ∧ bytesOf s = digTxt n ∧ s.size ≤ 22 := by
  simp only [okInt, Bool.and_eq_true, decide_eq_true_eq] at h
  obtain ⟨s, h1, h2, h3⟩ := decimal_f 20 k n (by omega) hk (by omega) h.1 h.2
  refine ⟨s, h1, ?_, h3⟩
  rw [h2]
  unfold digTxt
  by_cases hn : n < 0
  · rw [if_pos hn, if_pos hn]
  · rw [if_neg hn, if_neg hn, show n.toNat = n.natAbs from by omega]
theorem sumB_take {l : List Int} {i : Nat} (h : i < l.length) : sumB (l.take (i + 1)) = IntKind.u64.wrap ((Go.bits .xor .u64 (sumB (l.take i)) (IntKind.u64.wrap (rd l (i : Nat)))) * 1099511628211) := by
  rw [List.take_succ_eq_append_getElem h]
  unfold sumB
  rw [List.foldl_append]
  simp [stepB, rd, List.getD_eq_getElem?_getD, List.getElem?_eq_getElem h]
theorem refSum_l0 (l : List Int) (hl : l.length < 9223372036854775807) : ∀ (d i k : Nat), l.length - i = d → i ≤ l.length → d < k → cohousingref06_Sum.l0 k l (sumB (l.take i)) (i : Nat) = some (sumB l)
  | d, i, 0, hd, hi, hk => by omega
  | 0, i, k + 1, hd, hi, hk => by
    obtain rfl : i = l.length := by omega
    simp only [cohousingref06_Sum.l0]
    rw [if_neg (by omega), List.take_length]
  | d + 1, i, k + 1, hd, hi, hk => by
    have ih := refSum_l0 l hl d (i + 1) k (by omega) (by omega) (by omega)
    simp only [cohousingref06_Sum.l0]
    rw [if_pos (by omega), if_pos (by omega), ← sumB_take (by omega), wrapN i (by omega), ih]
theorem refSum_f (l : List Int) (hl : l.length < 9223372036854775807) (k : Nat) (hk : l.length < k) : cohousingref06_Sum.f k l = some (sumB l) :=
  refSum_l0 l hl l.length 0 k (by omega) (by omega) hk
theorem refInts_l0 (l : List Int) (hl : l.length ≤ 1000000) (hok : ∀ x ∈ l, okInt x = true) : ∀ (d i k : Nat), l.length - i = d → i ≤ l.length → l.length * 23 + 40 + d < k → cohousingref06_Ints.l0 k l (txt (l.take i)) (i : Nat) = some (sumB (txt l))
  | d, i, 0, hd, hi, hk => by omega
  | 0, i, k + 1, hd, hi, hk => by
    obtain rfl : i = l.length := by omega
    have hx := txt_len l
    simp only [cohousingref06_Ints.l0]
    rw [if_neg (by omega), List.take_length, refSum_f (txt l) (by omega) k (by omega)]
    rfl
  | d + 1, i, k + 1, hd, hi, hk => by
    have ih := refInts_l0 l hl hok d (i + 1) k (by omega) (by omega) (by omega)
    have hlt : i < l.length := by omega
    obtain ⟨s, h1, h2, h3⟩ := decimal_dig k (rd l i) (by omega) (hok _ (rd_mem hlt))
    have hx := txt_len (l.take i)
    rw [List.length_take, Nat.min_eq_left (by omega)] at hx
    have hlen := bytesOf_length s
    simp only [cohousingref06_Ints.l0]
    rw [if_pos (by omega), if_pos (by omega), h1]
    simp only [Option.bind_some]
    rw [if_pos (by omega), if_pos (by rw [List.length_append]; omega), h2, ← txt_take hlt, wrapN i (by omega), ih]
theorem refInts_f (l : List Int) (hl : l.length ≤ 1000000) (hok : ∀ x ∈ l, okInt x = true) (k : Nat) (hk : l.length * 24 + 40 < k) : cohousingref06_Ints.f k l = some (sumB (txt l)) :=
  refInts_l0 l hl hok l.length 0 k (by omega) (by omega) (by omega)
theorem refChallenge_f (l : List Int) (hl : l.length ≤ 1000000) (hok : ∀ x ∈ l, okInt x = true) (k : Nat) (hk : l.length * 24 + 40 < k) : cohousingref08_Challenge.f k l = some (chal l) := by
  have hr := sumB_range (txt l)
  unfold cohousingref08_Challenge.f chal
  rw [refInts_f l hl hok k hk]
  simp only [Option.bind_some]
  rw [tmod_nat _ _ hr.1 (by omega), wrap_id (by omega) (by omega)]
theorem refBehind_l1 (b out0 : List Int) (hb : b.length + out0.length < 1000000) : ∀ (d i k : Nat), b.length - i = d → i ≤ b.length → d < k → cohousingref08_behind.l1 k b (out0 ++ b.take i) (i : Nat) = some (out0 ++ b)
  | d, i, 0, hd, hi, hk => by omega
  | 0, i, k + 1, hd, hi, hk => by
    obtain rfl : i = b.length := by omega
    simp only [cohousingref08_behind.l1]
    rw [if_neg (by omega), List.take_length]
  | d + 1, i, k + 1, hd, hi, hk => by
    have ih := refBehind_l1 b out0 hb d (i + 1) k (by omega) (by omega) (by omega)
    have hlt : i < b.length := by omega
    rw [List.take_succ_eq_append_getElem hlt, ← List.append_assoc] at ih
    have e : b[i] = rd b i := by simp [rd, List.getD_eq_getElem?_getD, List.getElem?_eq_getElem hlt]
    rw [e] at ih
    simp only [cohousingref08_behind.l1]
    rw [if_pos (by omega), if_pos (by omega), if_pos (by rw [List.length_append, List.length_take]; omega), wrapN i (by omega), ih]
theorem refBehind_l0 (a b : List Int) (hb : b.length + a.length < 1000000) : ∀ (d i k : Nat), a.length - i = d → i ≤ a.length → d + b.length + 1 < k → cohousingref08_behind.l0 k a b (a.take i) (i : Nat) = some (a ++ b)
  | d, i, 0, hd, hi, hk => by omega
  | 0, i, k + 1, hd, hi, hk => by
    obtain rfl : i = a.length := by omega
    simp only [cohousingref08_behind.l0]
    rw [if_neg (by omega), List.take_length]
    have := refBehind_l1 b a hb b.length 0 k (by omega) (by omega) (by omega)
    rw [List.take_zero, List.append_nil] at this
    exact this
  | d + 1, i, k + 1, hd, hi, hk => by
    have ih := refBehind_l0 a b hb d (i + 1) k (by omega) (by omega) (by omega)
    have hlt : i < a.length := by omega
    rw [List.take_succ_eq_append_getElem hlt] at ih
    have e : a[i] = rd a i := by simp [rd, List.getD_eq_getElem?_getD, List.getElem?_eq_getElem hlt]
    rw [e] at ih
    simp only [cohousingref08_behind.l0]
    rw [if_pos (by omega), if_pos (by omega), if_pos (by rw [List.length_take]; omega), wrapN i (by omega), ih]
theorem refBehind_f (a b : List Int) (hb : b.length + a.length < 1000000) (k : Nat) (hk : a.length + b.length + 1 < k) : cohousingref08_behind.f k a b = some (a ++ b) :=
  refBehind_l0 a b hb a.length 0 k (by omega) (by omega) hk
theorem refBack_f (b a c s : Int) (hb : 0 ≤ b ∧ b < 2147483579) (ha : memB a = true) (hc : expB c = true) (hs : expB s = true) (k : Nat) (hk : 40 ≤ k) : cohousingref08_Back.f k b a c s = some (backV b a c s) := by
  have q1 := expB_lt hc
  have q2 := expB_lt hs
  have q3 := memB_lt ha
  unfold cohousingref08_Back.f backV
  rw [wrap_id (by omega) (by omega), tmod_nat _ _ (by omega) (by omega)]
  have e : pwZ a ((1073741789 - c) % 1073741789) = pwZ a (1073741789 - c) := by
    by_cases h0 : c = 0
    · subst h0
      rw [Int.sub_zero, memB_pw ha]
      rfl
    · rw [Int.emod_eq_of_lt (by omega) (by omega)]
  rw [refPower_P b s (by omega) (by omega) (by omega) (by omega) k hk, refPower_P a _ (by omega) (by omega) (by omega) (by omega) k hk]
  simp only [Option.bind_some, mul_pw, e]
theorem refForm_f (c s : Int) : cohousingref08_form.f c s = some (expB c && expB s) := by
  unfold cohousingref08_form.f
  rw [refExponent_f, refExponent_f]
  simp only [Option.bind_some]
  cases expB c <;> simp
theorem refSign_f (key once : Int) (l : List Int) (h : Msg l) (k : Nat) (hk : 30000 ≤ k) : cohousingref08_Sign.f k key once l = some (signV key once l) := by
  obtain ⟨k, rfl⟩ : ∃ m, k = m + 1 := ⟨k - 1, by omega⟩
  have hl := h.1
  unfold cohousingref08_Sign.f signV
  simp only [refSecret_f, Option.bind_some, cohousingref08_Sign.j0]
  cases hs : secB key with
  | false => simp
  | true =>
    cases ho : secB once with
    | false => simp
    | true =>
      have q1 := secB_lt hs
      have q2 := secB_lt ho
      simp only [Bool.not_true, Bool.false_eq_true, if_false, if_true, Bool.and_self]
      rw [refPower_P 4 once (by omega) (by omega) (by omega) (by omega) k (by omega), refPower_P 4 key (by omega) (by omega) (by omega) (by omega) k (by omega)]
      simp only [Option.bind_some]
      rw [refBehind_f _ l (by simp only [List.length_cons, List.length_nil]; omega) k (by simp only [List.length_cons, List.length_nil]; omega)]
      simp only [Option.bind_some]
      show ((cohousingref08_Challenge.f k (pwZ 4 once :: pwZ 4 key :: l)).bind _) = _
      rw [refChallenge_f _ (by simp only [List.length_cons]; omega) (msg2 h (ok_pw _ _) (ok_pw _ _)) k (by simp only [List.length_cons]; omega)]
      have hc := chal_lt (pwZ 4 once :: pwZ 4 key :: l)
      simp only [Option.bind_some]
      rw [ok_f (by omega) hc (by omega)]
theorem refVerify_f (pub c s : Int) (l : List Int) (h : Msg l) (k : Nat) (hk : 30000 ≤ k) : cohousingref08_Verify.f k pub c s l = some (verV pub c s l) := by
  obtain ⟨k, rfl⟩ : ∃ m, k = m + 1 := ⟨k - 1, by omega⟩
  have hl := h.1
  unfold cohousingref08_Verify.f verV
  rw [refMember_f pub _ (by omega)]
  simp only [refForm_f, Option.bind_some, cohousingref08_Verify.j0]
  cases hm : memB pub with
  | false => simp
  | true =>
    cases hc : expB c with
    | false => simp
    | true =>
      cases hs : expB s with
      | false => simp
      | true =>
        have q1 := memB_lt hm
        simp only [Bool.not_true, Bool.false_eq_true, if_false, if_true, Bool.and_self]
        rw [refBack_f 4 pub c s (by omega) hm hc hs k (by omega)]
        simp only [Option.bind_some]
        rw [refBehind_f _ l (by simp only [List.length_cons, List.length_nil]; omega) k (by simp only [List.length_cons, List.length_nil]; omega)]
        simp only [Option.bind_some]
        show ((cohousingref08_Challenge.f k (backV 4 pub c s :: pub :: l)).bind _) = _
        rw [refChallenge_f _ (by simp only [List.length_cons]; omega) (msg2 h (ok_back _ _ _ _) (ok_mem hm)) k (by simp only [List.length_cons]; omega)]
        simp only [Option.bind_some]
end Go.Proofs.YtcnkenknbmmglaaDoor.P
