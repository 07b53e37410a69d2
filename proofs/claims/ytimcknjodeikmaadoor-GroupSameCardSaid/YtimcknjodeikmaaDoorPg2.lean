/- Layer 8: challenges, signatures and proofs, told over whole numbers. -/
import Derived.Test.YtimcknjodeikmaaDoorPg
import Derived.Test.YtimcknjodeikmaaDoorPx7
import Derived.Test.YtimcknjodeikmaaDoorPx5
import Derived.Test.YtimcknjodeikmaaDoorPx4
set_option linter.unusedSimpArgs false
set_option linter.unusedVariables false
namespace Go.Proofs.YtimcknjodeikmaaDoor.P
open Go Go.RowKit Go.Proofs.YtimcknjodeikmaaDoorW.PrintWords Go.Proofs.YtimcknjodeikmaaDoorW.PrintLast Go.Proofs.YtimcknjodeikmaaDoorW.PrintMore

theorem bytesOf_append (a b : ByteArray) : bytesOf (a ++ b) = bytesOf a ++ bytesOf b := by
  unfold bytesOf
  rw [show (a ++ b).data = a.data ++ b.data from by simp]
  simp
theorem bytesOf_one (x : Int) (h0 : 0 ≤ x) (h1 : x < 256) : bytesOf (strOfNums [x]) = [x] := by
  obtain ⟨n, rfl⟩ := Int.eq_ofNat_of_zero_le h0
  simp only [bytesOf, strOfNums_data, List.map_cons, List.map_nil, Int.toNat_natCast, UInt8.toNat_ofNat']
  rw [Nat.mod_eq_of_lt (by omega)]
theorem decF_small (d n : Nat) (h : n < 10) : decF d n = [48 + (n : Int)] := by
  cases d with
  | zero => simp only [decF, Nat.mod_eq_of_lt h]
  | succ d => simp only [decF]; rw [if_pos h]
theorem tdiv_small (n : Int) (h : n.natAbs < 10) : Int.tdiv n 10 = 0 := by
  rcases Int.le_total 0 n with h0 | h0
  · rw [Int.tdiv_eq_ediv_of_nonneg h0]; omega
  · obtain ⟨m, rfl⟩ : ∃ m : Nat, n = -(m : Int) := ⟨n.natAbs, by omega⟩
    rw [Int.neg_tdiv, Int.tdiv_eq_ediv_of_nonneg (by omega)]; omega
theorem decimal_f : ∀ (d k : Nat) (n : Int), n.natAbs < 10 ^ (d + 1) → d < k → d ≤ 100 → -9223372036854775808 ≤ n → n ≤ 9223372036854775807 →
    ∃ s, cohousingref06_Decimal.f k n = some s ∧ bytesOf s = (if n < 0 then 45 :: decF d n.natAbs else decF d n.natAbs) ∧ s.size ≤ d + 2 := by
  intro d
  induction d with
  | zero =>
    intro k n h hk hd h0 h1
    obtain ⟨k, rfl⟩ : ∃ m, k = m + 1 := ⟨k - 1, by omega⟩
    have h10 : n.natAbs < 10 := by simpa using h
    rw [decF_small _ _ h10]
    simp only [cohousingref06_Decimal.f, Option.bind_some]
    by_cases hn : n < 0
    · have e1 : wrap64 (Int.tdiv n 10) = 0 := by
        rw [tdiv_small n h10]; exact wrap_id (by omega) (by omega)
      have e2 : wrap64 (48 - n) % 256 = 48 + (n.natAbs : Int) := by rw [wrap_id (by omega) (by omega)]; omega
      rw [if_pos hn, if_pos e1, e2, strOfNums_size, if_pos (by simp), if_pos hn]
      refine ⟨_, rfl, ?_, ?_⟩
      · rw [bytesOf_append, bytesOf_one _ (by omega) (by omega)]; rfl
      · rw [ByteArray.size_append, strOfNums_size]; simp; decide
    · have e2 : wrap64 (48 + n) % 256 = 48 + (n.natAbs : Int) := by rw [wrap_id (by omega) (by omega)]; omega
      rw [if_neg hn, if_pos (by omega), e2, if_neg hn]
      exact ⟨_, rfl, bytesOf_one _ (by omega) (by omega), by rw [strOfNums_size]; simp⟩
  | succ d ih =>
    intro k n h hk hd h0 h1
    obtain ⟨k, rfl⟩ : ∃ m, k = m + 1 := ⟨k - 1, by omega⟩
    by_cases h10 : n.natAbs < 10
    · rw [decF_small _ _ h10]
      simp only [cohousingref06_Decimal.f, Option.bind_some]
      by_cases hn : n < 0
      · have e1 : wrap64 (Int.tdiv n 10) = 0 := by
          rw [tdiv_small n h10]; exact wrap_id (by omega) (by omega)
        have e2 : wrap64 (48 - n) % 256 = 48 + (n.natAbs : Int) := by rw [wrap_id (by omega) (by omega)]; omega
        rw [if_pos hn, if_pos e1, e2, strOfNums_size, if_pos (by simp), if_pos hn]
        refine ⟨_, rfl, ?_, ?_⟩
        · rw [bytesOf_append, bytesOf_one _ (by omega) (by omega)]; rfl
        · rw [ByteArray.size_append, strOfNums_size]
          have : (⟨#[45]⟩ : ByteArray).size = 1 := rfl
          simp only [List.length_cons, List.length_nil]
          omega
      · have e2 : wrap64 (48 + n) % 256 = 48 + (n.natAbs : Int) := by rw [wrap_id (by omega) (by omega)]; omega
        rw [if_neg hn, if_pos (by omega), e2, if_neg hn]
        exact ⟨_, rfl, bytesOf_one _ (by omega) (by omega), by rw [strOfNums_size]; simp⟩
    · have eF : decF (d + 1) n.natAbs = decF d (n.natAbs / 10) ++ [48 + ((n.natAbs % 10 : Nat) : Int)] := by
        simp only [decF]; rw [if_neg h10]
      have hp : n.natAbs / 10 < 10 ^ (d + 1) := by rw [Nat.pow_succ] at h; omega
      rw [eF]
      by_cases hn : n < 0
      · obtain ⟨m, rfl⟩ : ∃ m : Nat, n = -(m : Int) := ⟨n.natAbs, by omega⟩
        have hm : (-(m : Int)).natAbs = m := by omega
        rw [hm] at h10 hp ⊢
        have e0 : Int.tdiv (-(m : Int)) 10 = -((m / 10 : Nat) : Int) := by
          rw [Int.neg_tdiv, Int.tdiv_eq_ediv_of_nonneg (by omega)]; omega
        have e1 : wrap64 (Int.tdiv (-(m : Int)) 10) = -((m / 10 : Nat) : Int) := by rw [e0, wrap_id (by omega) (by omega)]
        have e2 : wrap64 (48 - Int.tmod (-(m : Int)) 10) % 256 = 48 + ((m % 10 : Nat) : Int) := by
          rw [Int.neg_tmod, Int.tmod_eq_emod_of_nonneg (by omega), wrap_id (by omega) (by omega)]
          omega
        obtain ⟨s, hs, hb, hz⟩ := ih k (-((m / 10 : Nat) : Int)) (by omega) (by omega) (by omega) (by omega) (by omega)
        rw [if_pos (by omega)] at hb
        rw [show (-((m / 10 : Nat) : Int)).natAbs = m / 10 from by omega] at hb
        simp only [cohousingref06_Decimal.f]
        rw [if_pos hn, e1, if_neg (by omega), hs, e2, if_pos hn]
        simp only [Option.bind_some, strOfNums_size, List.length_cons, List.length_nil]
        rw [if_pos (by omega)]
        refine ⟨_, rfl, ?_, ?_⟩
        · rw [bytesOf_append, bytesOf_one _ (by omega) (by omega), hb]; rfl
        · rw [ByteArray.size_append, strOfNums_size]; simp only [List.length_cons, List.length_nil]; omega
      · obtain ⟨m, rfl⟩ : ∃ m : Nat, n = (m : Int) := ⟨n.natAbs, by omega⟩
        have hm : ((m : Int)).natAbs = m := by omega
        rw [hm] at h10 hp ⊢
        have e0 : Int.tdiv (m : Int) 10 = ((m / 10 : Nat) : Int) := by
          rw [Int.tdiv_eq_ediv_of_nonneg (by omega)]; omega
        have e1 : wrap64 (Int.tdiv (m : Int) 10) = ((m / 10 : Nat) : Int) := by rw [e0, wrap_id (by omega) (by omega)]
        have e2 : wrap64 (48 + Int.tmod (m : Int) 10) % 256 = 48 + ((m % 10 : Nat) : Int) := by
          rw [Int.tmod_eq_emod_of_nonneg (by omega), wrap_id (by omega) (by omega)]
          omega
        obtain ⟨s, hs, hb, hz⟩ := ih k ((m / 10 : Nat) : Int) (by omega) (by omega) (by omega) (by omega) (by omega)
        rw [if_neg (by omega)] at hb
        rw [show (((m / 10 : Nat) : Int)).natAbs = m / 10 from by omega] at hb
        simp only [cohousingref06_Decimal.f]
        rw [if_neg hn, if_neg (by omega), e1, hs, e2, if_neg hn]
        simp only [Option.bind_some, strOfNums_size, List.length_cons, List.length_nil]
        rw [if_pos (by omega)]
        refine ⟨_, rfl, ?_, ?_⟩
        · rw [bytesOf_append, bytesOf_one _ (by omega) (by omega), hb]
        · rw [ByteArray.size_append, strOfNums_size]; simp only [List.length_cons, List.length_nil]; omega
theorem decimal_dig (k : Nat) (n : Int) (hk : 20 < k) (h : okInt n = true) : ∃ s, cohousingref06_Decimal.f k n = some s ∧ bytesOf s = digTxt n ∧ s.size ≤ 22 := by
  simp only [okInt, Bool.and_eq_true, decide_eq_true_eq] at h
  obtain ⟨s, h1, h2, h3⟩ := decimal_f 20 k n (by omega) hk (by omega) h.1 h.2
  refine ⟨s, h1, ?_, h3⟩
  rw [h2]
  unfold digTxt
  by_cases hn : n < 0
  · rw [if_pos hn, if_pos hn]
  · rw [if_neg hn, if_neg hn, show n.toNat = n.natAbs from by omega]
theorem sumB_take {l : List Int} {i : Nat} (h : i < l.length) : sumB (l.take (i + 1)) = IntKind.u64.wrap ((Go.bits .xor .u64 (sumB (l.take i)) (IntKind.u64.wrap (rd l (i : Nat)))) * 1099511628211) := by
  rw [List.take_succ_eq_append_getElem h]
  unfold sumB
  rw [List.foldl_append]
  simp [stepB, rd, List.getD_eq_getElem?_getD, List.getElem?_eq_getElem h]
theorem refSum_l0 (l : List Int) (hl : l.length < 9223372036854775807) : ∀ (d i k : Nat), l.length - i = d → i ≤ l.length → d < k → cohousingref06_Sum.l0 k l (sumB (l.take i)) (i : Nat) = some (sumB l)
  | d, i, 0, hd, hi, hk => by omega
  | 0, i, k + 1, hd, hi, hk => by
    obtain rfl : i = l.length := by omega
    simp only [cohousingref06_Sum.l0]
    rw [if_neg (by omega), List.take_length]
  | d + 1, i, k + 1, hd, hi, hk => by
    have ih := refSum_l0 l hl d (i + 1) k (by omega) (by omega) (by omega)
    simp only [cohousingref06_Sum.l0]
    rw [if_pos (by omega), if_pos (by omega), ← sumB_take (by omega), wrapN i (by omega), ih]
theorem refSum_f (l : List Int) (hl : l.length < 9223372036854775807) (k : Nat) (hk : l.length < k) : cohousingref06_Sum.f k l = some (sumB l) :=
  refSum_l0 l hl l.length 0 k (by omega) (by omega) hk
theorem refInts_l0 (l : List Int) (hl : l.length ≤ 1000000) (hok : ∀ x ∈ l, okInt x = true) : ∀ (d i k : Nat), l.length - i = d → i ≤ l.length → l.length * 23 + 40 + d < k → cohousingref06_Ints.l0 k l (txt (l.take i)) (i : Nat) = some (sumB (txt l))
  | d, i, 0, hd, hi, hk => by omega
  | 0, i, k + 1, hd, hi, hk => by
    obtain rfl : i = l.length := by omega
    have hx := txt_len l
    simp only [cohousingref06_Ints.l0]
    rw [if_neg (by omega), List.take_length, refSum_f (txt l) (by omega) k (by omega)]
    rfl
  | d + 1, i, k + 1, hd, hi, hk => by
    have ih := refInts_l0 l hl hok d (i + 1) k (by omega) (by omega) (by omega)
    have hlt : i < l.length := by omega
    obtain ⟨s, h1, h2, h3⟩ := decimal_dig k (rd l i) (by omega) (hok _ (rd_mem hlt))
    have hx := txt_len (l.take i)
    rw [List.length_take, Nat.min_eq_left (by omega)] at hx
    have hlen := bytesOf_length s
    simp only [cohousingref06_Ints.l0]
    rw [if_pos (by omega), if_pos (by omega), h1]
    simp only [Option.bind_some]
    rw [if_pos (by omega), if_pos (by rw [List.length_append]; omega), h2, ← txt_take hlt, wrapN i (by omega), ih]
theorem refInts_f (l : List Int) (hl : l.length ≤ 1000000) (hok : ∀ x ∈ l, okInt x = true) (k : Nat) (hk : l.length * 24 + 40 < k) : cohousingref06_Ints.f k l = some (sumB (txt l)) :=
  refInts_l0 l hl hok l.length 0 k (by omega) (by omega) (by omega)

/-- The challenge of numbers. -/
def chal (l : List Int) : Int := sumB (txt l) % 1073741789
theorem sumB_range (l : List Int) : 0 ≤ sumB l ∧ sumB l < 18446744073709551616 := by
  have key : ∀ (l : List Int) (h : Int), 0 ≤ h ∧ h < 18446744073709551616 → 0 ≤ l.foldl stepB h ∧ l.foldl stepB h < 18446744073709551616 := by
    intro l
    induction l with
    | nil => exact fun h hh => hh
    | cons x l ih =>
      intro h hh
      refine ih _ ?_
      unfold stepB
      generalize Go.bits .xor .u64 h (IntKind.u64.wrap x) * 1099511628211 = z
      simp [IntKind.wrap, IntKind.bits, IntKind.signed]
      omega
  exact key l _ (by decide)
theorem chal_lt (l : List Int) : 0 ≤ chal l ∧ chal l < 1073741789 := by unfold chal; omega
theorem challenge_f (l : List Int) (hl : l.length ≤ 1000000) (hok : ∀ x ∈ l, okInt x = true) : group_challenge.f l = some (chal l) := by
  have hr := sumB_range (txt l)
  unfold group_challenge.f digest_Ints.f chal
  rw [if_pos ⟨List.all_eq_true.2 hok, by omega⟩]
  simp only [Option.bind_some]
  rw [tmod_nat _ _ hr.1 (by omega), wrap_id (by omega) (by omega)]
theorem refChallenge_f (l : List Int) (hl : l.length ≤ 1000000) (hok : ∀ x ∈ l, okInt x = true) (k : Nat) (hk : l.length * 24 + 40 < k) : cohousingref08_Challenge.f k l = some (chal l) := by
  have hr := sumB_range (txt l)
  unfold cohousingref08_Challenge.f chal
  rw [refInts_f l hl hok k hk]
  simp only [Option.bind_some]
  rw [tmod_nat _ _ hr.1 (by omega), wrap_id (by omega) (by omega)]

theorem okInt_of {x : Int} (h0 : -9223372036854775808 ≤ x) (h1 : x ≤ 9223372036854775807) : okInt x = true := by
  simp only [okInt, Bool.and_eq_true, decide_eq_true_eq]; exact ⟨h0, h1⟩
theorem ok_pw (a x : Int) : okInt (pwZ a x) = true := by have := pwZ_lt a x; exact okInt_of (by omega) (by omega)
/-- What a message may be. -/
def Msg (l : List Int) : Prop := l.length ≤ 1000 ∧ ∀ x ∈ l, okInt x = true
theorem ok_cons {x : Int} {l : List Int} (hx : okInt x = true) (hl : ∀ y ∈ l, okInt y = true) : ∀ y ∈ x :: l, okInt y = true := fun y hy => by
  rcases List.mem_cons.1 hy with rfl | hy
  · exact hx
  · exact hl y hy
def okV (once c key : Int) : Int := (once + c * key) % 1073741789
theorem ok_f {once c key : Int} (ho : 0 ≤ once ∧ once < 1073741789) (hc : 0 ≤ c ∧ c < 1073741789) (hk : 0 ≤ key ∧ key < 1073741789) : Int.tmod (wrap64 (once + wrap64 (c * key))) 1073741789 = okV once c key := by
  obtain ⟨h0, h1⟩ := mul_lt31 (a := c) (b := key) (by omega) (by omega) (by omega) (by omega)
  unfold okV
  rw [wrap_id (a := c * key) (by omega) (by omega), wrap_id (by omega) (by omega), tmod_nat _ _ (by omega) (by omega)]
theorem refBehind_l1 (b out0 : List Int) (hb : b.length + out0.length < 1000000) : ∀ (d i k : Nat), b.length - i = d → i ≤ b.length → d < k → cohousingref08_behind.l1 k b (out0 ++ b.take i) (i : Nat) = some (out0 ++ b)
  | d, i, 0, hd, hi, hk => by omega
  | 0, i, k + 1, hd, hi, hk => by
    obtain rfl : i = b.length := by omega
    simp only [cohousingref08_behind.l1]
    rw [if_neg (by omega), List.take_length]
  | d + 1, i, k + 1, hd, hi, hk => by
    have ih := refBehind_l1 b out0 hb d (i + 1) k (by omega) (by omega) (by omega)
    have hlt : i < b.length := by omega
    rw [List.take_succ_eq_append_getElem hlt, ← List.append_assoc] at ih
    have e : b[i] = rd b i := by simp [rd, List.getD_eq_getElem?_getD, List.getElem?_eq_getElem hlt]
    rw [e] at ih
    simp only [cohousingref08_behind.l1]
    rw [if_pos (by omega), if_pos (by omega), if_pos (by rw [List.length_append, List.length_take]; omega), wrapN i (by omega), ih]
theorem refBehind_l0 (a b : List Int) (hb : b.length + a.length < 1000000) : ∀ (d i k : Nat), a.length - i = d → i ≤ a.length → d + b.length + 1 < k → cohousingref08_behind.l0 k a b (a.take i) (i : Nat) = some (a ++ b)
  | d, i, 0, hd, hi, hk => by omega
  | 0, i, k + 1, hd, hi, hk => by
    obtain rfl : i = a.length := by omega
    simp only [cohousingref08_behind.l0]
    rw [if_neg (by omega), List.take_length]
    have := refBehind_l1 b a hb b.length 0 k (by omega) (by omega) (by omega)
    rw [List.take_zero, List.append_nil] at this
    exact this
  | d + 1, i, k + 1, hd, hi, hk => by
    have ih := refBehind_l0 a b hb d (i + 1) k (by omega) (by omega) (by omega)
    have hlt : i < a.length := by omega
    rw [List.take_succ_eq_append_getElem hlt] at ih
    have e : a[i] = rd a i := by simp [rd, List.getD_eq_getElem?_getD, List.getElem?_eq_getElem hlt]
    rw [e] at ih
    simp only [cohousingref08_behind.l0]
    rw [if_pos (by omega), if_pos (by omega), if_pos (by rw [List.length_take]; omega), wrapN i (by omega), ih]
theorem refBehind_f (a b : List Int) (hb : b.length + a.length < 1000000) (k : Nat) (hk : a.length + b.length + 1 < k) : cohousingref08_behind.f k a b = some (a ++ b) :=
  refBehind_l0 a b hb a.length 0 k (by omega) (by omega) hk

def signV (key once : Int) (l : List Int) : Int × Int × Int := if secB key && secB once then (chal (pwZ 4 once :: pwZ 4 key :: l), okV once (chal (pwZ 4 once :: pwZ 4 key :: l)) key, 0) else (0, 0, 1)
theorem msg2 {l : List Int} (h : Msg l) {a b : Int} (ha : okInt a = true) (hb : okInt b = true) : ∀ x ∈ a :: b :: l, okInt x = true := ok_cons ha (ok_cons hb h.2)
theorem sign_f (key once : Int) (l : List Int) (h : Msg l) (k : Nat) (hk : 10 ≤ k) : group_Sign.f k key once l = some (signV key once l) := by
  obtain ⟨k, rfl⟩ : ∃ m, k = m + 1 := ⟨k - 1, by omega⟩
  have hl := h.1
  unfold group_Sign.f signV
  simp only [fits1, Option.bind_some, group_Sign.j0]
  cases hs : secB key with
  | false => simp
  | true =>
    cases ho : secB once with
    | false => simp
    | true =>
      have q1 := secB_lt hs
      have q2 := secB_lt ho
      simp only [Bool.not_true, Bool.false_eq_true, if_false, if_true, Bool.and_self]
      rw [power_f 4 once (by omega) (by omega) (by omega) (by omega), power_f 4 key (by omega) (by omega) (by omega) (by omega)]
      simp only [Option.bind_some, List.length_cons, List.length_nil]
      rw [if_pos (by omega)]
      show ((group_challenge.f (pwZ 4 once :: pwZ 4 key :: l)).bind _) = _
      rw [challenge_f _ (by simp only [List.length_cons]; omega) (msg2 h (ok_pw _ _) (ok_pw _ _))]
      have hc := chal_lt (pwZ 4 once :: pwZ 4 key :: l)
      simp only [Option.bind_some, group_answer.f]
      rw [ok_f (by omega) hc (by omega)]
/-- b ^ s * a ^ (Q - c). -/
def backV (b a c s : Int) : Int := pwZ b s * pwZ a (1073741789 - c) % 2147483579
theorem backV_lt (b a c s : Int) : 0 ≤ backV b a c s ∧ backV b a c s < 2147483579 := by unfold backV; omega
theorem ok_back (b a c s : Int) : okInt (backV b a c s) = true := by have := backV_lt b a c s; exact okInt_of (by omega) (by omega)
theorem commitment_f (b a c s : Int) (hb : 0 ≤ b ∧ b < 2147483579) (ha : 0 ≤ a ∧ a < 2147483579) (hc : expB c = true) (hs : expB s = true) : group_commitment.f b a c s = some (backV b a c s) := by
  have q1 := expB_lt hc
  have q2 := expB_lt hs
  unfold group_commitment.f backV
  rw [wrap_id (by omega) (by omega), power_f b s (by omega) (by omega) (by omega) (by omega), power_f a _ (by omega) (by omega) (by omega) (by omega)]
  simp only [Option.bind_some, mul_pw]
theorem memB_pw {a : Int} (h : memB a = true) : pwZ a 1073741789 = 1 := by
  simp only [memB, Bool.and_eq_true, decide_eq_true_eq, beq_iff_eq] at h
  exact h.2.2
theorem refBack_f (b a c s : Int) (hb : 0 ≤ b ∧ b < 2147483579) (ha : memB a = true) (hc : expB c = true) (hs : expB s = true) (k : Nat) (hk : 40 ≤ k) : cohousingref08_Back.f k b a c s = some (backV b a c s) := by
  have q1 := expB_lt hc
  have q2 := expB_lt hs
  have q3 := memB_lt ha
  unfold cohousingref08_Back.f backV
  rw [wrap_id (by omega) (by omega), tmod_nat _ _ (by omega) (by omega)]
  have e : pwZ a ((1073741789 - c) % 1073741789) = pwZ a (1073741789 - c) := by
    by_cases h0 : c = 0
    · subst h0
      rw [Int.sub_zero, memB_pw ha]
      rfl
    · rw [Int.emod_eq_of_lt (by omega) (by omega)]
  rw [refPower_P b s (by omega) (by omega) (by omega) (by omega) k hk, refPower_P a _ (by omega) (by omega) (by omega) (by omega) k hk]
  simp only [Option.bind_some, mul_pw, e]
def verV (pub c s : Int) (l : List Int) : Bool × Int := if memB pub && (expB c && expB s) then (chal (backV 4 pub c s :: pub :: l) == c, 0) else (false, 1)
theorem ok_mem {a : Int} (h : memB a = true) : okInt a = true := by have := memB_lt h; exact okInt_of (by omega) (by omega)
theorem verify_f (pub c s : Int) (l : List Int) (h : Msg l) (k : Nat) (hk : 10 ≤ k) : group_Verify.f k pub c s l = some (verV pub c s l) := by
  obtain ⟨k, rfl⟩ : ∃ m, k = m + 1 := ⟨k - 1, by omega⟩
  have hl := h.1
  unfold group_Verify.f verV
  simp only [member_f, fits0, Option.bind_some, group_Verify.j0]
  cases hm : memB pub with
  | false => simp
  | true =>
    cases hc : expB c with
    | false => simp
    | true =>
      cases hs : expB s with
      | false => simp
      | true =>
        have q1 := memB_lt hm
        simp only [Bool.not_true, Bool.false_eq_true, if_false, if_true, Bool.and_self]
        rw [commitment_f 4 pub c s (by omega) (by omega) hc hs]
        simp only [Option.bind_some, List.length_cons, List.length_nil]
        rw [if_pos (by omega)]
        show ((group_challenge.f (backV 4 pub c s :: pub :: l)).bind _) = _
        rw [challenge_f _ (by simp only [List.length_cons]; omega) (msg2 h (ok_back _ _ _ _) (ok_mem hm))]
        simp only [Option.bind_some]
        rw [Bool.beq_comm]
def sameL (b o x once : Int) : List Int := [b, pwZ b x, o, pwZ o x, pwZ b once, pwZ o once]
def sameV (b o x once : Int) : Int × Int × Int := if (baseB b && baseB o) && (secB x && secB once) then (chal (sameL b o x once), okV once (chal (sameL b o x once)) x, 0) else (0, 0, 1)
theorem baseB_mem {a : Int} (h : baseB a = true) : memB a = true := by unfold baseB at h; simp only [Bool.and_eq_true] at h; exact h.1
theorem sameL_ok {b o : Int} (hb : memB b = true) (ho : memB o = true) (x once : Int) : ∀ y ∈ sameL b o x once, okInt y = true :=
  ok_cons (ok_mem hb) (ok_cons (ok_pw _ _) (ok_cons (ok_mem ho) (ok_cons (ok_pw _ _) (ok_cons (ok_pw _ _) (ok_cons (ok_pw _ _) (fun _ h => by cases h))))))
theorem same_f (b o x once : Int) (k : Nat) (hk : 10 ≤ k) : group_Same.f k b o x once = some (sameV b o x once) := by
  obtain ⟨k, rfl⟩ : ∃ m, k = m + 1 := ⟨k - 1, by omega⟩
  unfold group_Same.f sameV baseB
  simp only [member_f, fits1, Option.bind_some, group_Same.j0]
  by_cases h1 : b = 1
  · rw [if_pos h1]; simp [h1]
  by_cases h2 : o = 1
  · rw [if_neg h1, if_pos h2]; simp [h2]
  rw [if_neg h1, if_neg h2, show (b != 1) = true from by simp [h1], show (o != 1) = true from by simp [h2]]
  cases hb : memB b with
  | false => simp
  | true =>
    cases ho : memB o with
    | false => simp
    | true =>
      cases hx : secB x with
      | false => simp
      | true =>
        cases hc : secB once with
        | false => simp
        | true =>
          have q1 := memB_lt hb
          have q2 := memB_lt ho
          have q3 := secB_lt hx
          have q4 := secB_lt hc
          simp only [Bool.not_true, Bool.false_eq_true, if_false, if_true, Bool.and_self]
          rw [power_f b x (by omega) (by omega) (by omega) (by omega), power_f o x (by omega) (by omega) (by omega) (by omega), power_f b once (by omega) (by omega) (by omega) (by omega), power_f o once (by omega) (by omega) (by omega) (by omega)]
          simp only [Option.bind_some]
          show ((group_challenge.f (sameL b o x once)).bind _) = _
          rw [challenge_f _ (by simp [sameL]) (sameL_ok hb ho x once)]
          have hc := chal_lt (sameL b o x once)
          simp only [Option.bind_some, group_answer.f]
          rw [ok_f (by omega) hc (by omega)]
def eqlL (b x o y c s : Int) : List Int := [b, x, o, y, backV b x c s, backV o y c s]
def eqlV (b x o y c s : Int) : Bool × Int := if ((baseB b && baseB o) && (memB x && memB y)) && (expB c && expB s) then (chal (eqlL b x o y c s) == c, 0) else (false, 1)
theorem eqlL_ok {b x o y : Int} (hb : memB b = true) (hx : memB x = true) (ho : memB o = true) (hy : memB y = true) (c s : Int) : ∀ z ∈ eqlL b x o y c s, okInt z = true :=
  ok_cons (ok_mem hb) (ok_cons (ok_mem hx) (ok_cons (ok_mem ho) (ok_cons (ok_mem hy) (ok_cons (ok_back _ _ _ _) (ok_cons (ok_back _ _ _ _) (fun _ h => by cases h))))))
theorem equal_f (b x o y c s : Int) (k : Nat) (hk : 10 ≤ k) : group_Equal.f k b x o y c s = some (eqlV b x o y c s) := by
  obtain ⟨k, rfl⟩ : ∃ m, k = m + 2 := ⟨k - 2, by omega⟩
  unfold group_Equal.f eqlV baseB
  simp only [member_f, fits0, Option.bind_some, group_Equal.j0, group_Equal.j1]
  by_cases h1 : b = 1
  · rw [if_pos h1]; simp [h1]
  by_cases h2 : o = 1
  · rw [if_neg h1, if_pos h2]; simp [h2]
  rw [if_neg h1, if_neg h2, show (b != 1) = true from by simp [h1], show (o != 1) = true from by simp [h2]]
  cases hb : memB b with
  | false => simp
  | true =>
    cases ho : memB o with
    | false => simp
    | true =>
      cases hx : memB x with
      | false => simp
      | true =>
        cases hy : memB y with
        | false => simp
        | true =>
          cases hc : expB c with
          | false => simp
          | true =>
            cases hs : expB s with
            | false => simp
            | true =>
              have q1 := memB_lt hb
              have q2 := memB_lt ho
              have q3 := memB_lt hx
              have q4 := memB_lt hy
              simp only [Bool.not_true, Bool.false_eq_true, if_false, if_true, Bool.and_self]
              rw [commitment_f b x c s (by omega) (by omega) hc hs, commitment_f o y c s (by omega) (by omega) hc hs]
              simp only [Option.bind_some]
              show ((group_challenge.f (eqlL b x o y c s)).bind _) = _
              rw [challenge_f _ (by simp [eqlL]) (eqlL_ok hb hx ho hy c s)]
              simp only [Option.bind_some]
end Go.Proofs.YtimcknjodeikmaaDoor.P
