/- Chapter 40: what the reference's functions compute. -/
import Derived.Test.YtkaebblbmoolaaaDoorPbD
import Derived.Test.YtkaebblbmoolaaaDoorPn
import Derived.Test.YtkaebblbmoolaaaDoorPx8
import Derived.Test.YtkaebblbmoolaaaDoorPx9
import Derived.Test.YtkaebblbmoolaaaDoorPx9
set_option linter.unusedSimpArgs false
set_option linter.unusedVariables false
namespace Go.Proofs.YtkaebblbmoolaaaDoor.P
open Go Go.RowKit Go.Proofs.YtkaebblbmoolaaaDoorW.PrintWords Go.Proofs.YtkaebblbmoolaaaDoorW.PrintLast Go.Proofs.YtkaebblbmoolaaaDoorW.PrintMore

theorem okN_of' {k a b r : Int} (hk : keyB k = true) (hr : expB r = true) (ha : memB a = true) (hb : memB b = true) : okN k a b r = true := by
  unfold okN; rw [hk, hr, ha, hb]; rfl
theorem refKey_f (a : Int) (k : Nat) (hk : 40 ≤ k) : cohousingref40_Key.f k a = some (keyB a) := by
  unfold cohousingref40_Key.f keyB
  rw [refMember_f a k hk]
  simp only [obs]
  by_cases h : a = 1
  · rw [if_pos h]; simp [h]
  · rw [if_neg h]
    have : (a != 1) = true := by simpa using h
    rw [this, Bool.true_and]
theorem refpower_f (a x : Int) (ha : 0 ≤ a) (ha1 : a < 2147483579) (hx : expB x = true) (k : Nat) (hk : 40 ≤ k) : cohousingref40_power.f k a x = some (pwZ a x) := by
  have q := expB_lt hx
  unfold cohousingref40_power.f
  rw [refPower_P a x ha ha1 q.1 (by omega) k hk]
  rfl
theorem reftimes_f (a b : Int) (ha : 0 ≤ a) (ha1 : a < 2147483648) (hb : 0 ≤ b) (hb1 : b < 2147483648) : cohousingref40_times.f a b = some (a * b % 2147483579) := by
  unfold cohousingref40_times.f
  rw [mul_mod ha ha1 hb hb1 (by omega)]
theorem refanew_f {p a b r : Int} (h : okN p a b r = true) (k : Nat) (hk : 40 ≤ k) : cohousingref40_anew.f k p a b r = some (nA a r, nB p b r) := by
  obtain ⟨h0, h1, h2, h3⟩ := okN_all h
  have q0 := memB_lt (keyB_mem h0)
  have q2 := memB_lt h2
  have q3 := memB_lt h3
  have z1 := pwZ_lt 4 r
  have z2 := pwZ_lt p r
  unfold cohousingref40_anew.f
  rw [refpower_f 4 r (by omega) (by omega) h1 k hk, refpower_f p r (by omega) (by omega) h1 k hk]
  simp only [obs]
  rw [reftimes_f a _ (by omega) (by omega) z1.1 (by omega), reftimes_f b _ (by omega) (by omega) z2.1 (by omega)]
  rfl
theorem refCipher_f (a b : Int) (k : Nat) (hk : 40 ≤ k) : cohousingref40_Cipher.f k a b = some (memB a && memB b) := by
  unfold cohousingref40_Cipher.f
  rw [refMember_f a k hk, refMember_f b k hk]
  simp only [obs]
  cases memB a <;> simp
theorem refAgain_f (p a b r : Int) (k : Nat) (hk : 40 ≤ k) : cohousingref40_Again.f k p a b r = some (againV p a b r) := by
  unfold cohousingref40_Again.f againV
  rw [refCipher_f a b k hk, refKey_f p k hk, refExponent_f]
  simp only [obs]
  cases h : okN p a b r with
  | true =>
    rw [refanew_f h k hk]
    obtain ⟨h0, h1, h2, h3⟩ := okN_all h
    rw [h0, h1, h2, h3]
    simp [obs]
  | false =>
    cases h0 : keyB p with
    | false => simp
    | true =>
      cases h1 : expB r with
      | false => cases memB a <;> cases memB b <;> simp
      | true =>
        cases h2 : memB a with
        | false => simp
        | true =>
          cases h3 : memB b with
          | false => simp
          | true => rw [okN_of' h0 h1 h2 h3] at h; cases h
theorem refEnc_f (p v r : Int) (k : Nat) (hk : 50 ≤ k) : cohousingref40_Encrypt.f k p v r = some (encV p v r) := by
  obtain ⟨k, rfl⟩ : ∃ m, k = m + 1 := ⟨k - 1, by omega⟩
  unfold cohousingref40_Encrypt.f
  rw [refKey_f p _ (by omega), refExponent_f]
  simp only [obs]
  cases h0 : keyB p with
  | false =>
    have hn : ∀ a b, okN p a b r = false := fun a b => by unfold okN; rw [h0]; rfl
    unfold encV againV
    simp [cohousingref40_Encrypt.j0, hn]
  | true =>
    cases h1 : expB r with
    | false =>
      have hn : ∀ a b, okN p a b r = false := fun a b => by unfold okN; rw [h1]; simp
      unfold encV againV
      simp only [if_true, Bool.not_false, cohousingref40_Encrypt.j0, hn, Bool.false_eq_true, if_false]
      split
      · simp
      · split
        · simp
        · simp
    | true =>
      have q0 := memB_lt (keyB_mem h0)
      have z1 := pwZ_lt 4 r
      have z2 := pwZ_lt p r
      unfold encV
      simp only [if_true, Bool.not_true, cohousingref40_Encrypt.j0, Bool.false_eq_true, if_false]
      rw [refpower_f 4 r (by omega) (by omega) h1 k (by omega), refpower_f p r (by omega) (by omega) h1 k (by omega)]
      simp only [obs]
      have eA : nA 1 r = pwZ 4 r := by unfold nA; rw [Int.one_mul, Int.emod_eq_of_lt z1.1 z1.2]
      have key : ∀ g : Int, memB g = true → ∀ v : Int, pwZ 4 v = g → expB v = true → ((cohousingref40_power.f k 4 v).bind fun t195 => ((cohousingref40_times.f (pwZ p r) t195).bind fun t196 => (some (pwZ 4 r, t196, (0 : Int))))) = some (againV p 1 g r) := fun g hg v hv he => by
        have q := memB_lt hg
        rw [refpower_f 4 v (by omega) (by omega) he k (by omega), hv]
        simp only [obs]
        rw [reftimes_f _ _ z2.1 (by omega) (by omega) (by omega)]
        unfold againV
        rw [if_pos (okN_of' h0 h1 memB_1 hg), eA]
        unfold nB
        rw [Int.mul_comm g]
        rfl
      by_cases v0 : v = 0
      · subst v0
        rw [if_neg (by omega), if_neg (by omega), if_pos rfl]
        exact key 1 memB_1 0 pw0 (by decide)
      by_cases v1 : v = 1
      · subst v1
        rw [if_neg (by omega), if_neg (by omega), if_neg (by omega), if_pos rfl]
        exact key 4 memB_4 1 pw1 (by decide)
      by_cases v2 : v = 2
      · subst v2
        rw [if_neg (by omega), if_neg (by omega), if_neg (by omega), if_neg (by omega), if_pos rfl]
        exact key 16 memB_16 2 pw2 (by decide)
      rw [if_neg v0, if_neg v1, if_neg v2]
      by_cases h : v < 0
      · rw [if_pos h]
      · rw [if_neg h, if_pos (by omega)]
theorem refCiphers_l0 (l : List S23) (hl : l.length < 9223372036854775807) : ∀ (d i k : Nat), l.length - i = d → i ≤ l.length → d + 40 < k → cohousingref40_Ciphers.l0 k l (i : Nat) = some ((l.drop i).all ciphB && (decide (1 ≤ l.length) && decide (l.length ≤ 64)))
  | d, i, 0, hd, hi, hk => by omega
  | 0, i, k + 1, hd, hi, hk => by
    obtain rfl : i = l.length := by omega
    simp only [cohousingref40_Ciphers.l0]
    rw [if_neg (by omega), List.drop_length, List.all_nil, Bool.true_and]
    by_cases h : 1 ≤ l.length
    · rw [if_pos (by omega), decide_eq_true h, Bool.true_and]
      congr 1
      exact decide_eq_decide.2 (by omega)
    · rw [if_neg (by omega), decide_eq_false h, Bool.false_and]
  | d + 1, i, k + 1, hd, hi, hk => by
    have ih := refCiphers_l0 l hl d (i + 1) k (by omega) (by omega) (by omega)
    have hlt : i < l.length := by omega
    have e : l.drop i = rd_T23 l (i : Int) :: l.drop (i + 1) := by
      rw [List.drop_eq_getElem_cons hlt]
      congr 1
      unfold rd_T23
      simp [List.getD_eq_getElem?_getD, hlt]
    simp only [cohousingref40_Ciphers.l0]
    rw [if_pos (by omega), if_pos (by omega), refCipher_f _ _ k (by omega), e, List.all_cons]
    simp only [obs]
    show (if ciphB (rd_T23 l (i : Int)) = true then _ else _) = _
    cases h : ciphB (rd_T23 l (i : Int)) with
    | false => simp
    | true =>
      rw [if_pos rfl, wrapN i (by omega), ih, Bool.true_and]
theorem refCiphers_f (l : List S23) (hl : l.length < 9223372036854775807) (k : Nat) (hk : l.length + 40 < k) : cohousingref40_Ciphers.f k l = some (ciphsB l) := by
  have := refCiphers_l0 l hl l.length 0 k (by omega) (by omega) hk
  rw [List.drop_zero] at this
  unfold cohousingref40_Ciphers.f ciphsB
  rw [← Bool.and_assoc, Bool.and_comm (decide (1 ≤ l.length) && decide (l.length ≤ 64))]
  exact this
theorem refExps_l0 (l : List Int) (n : Int) (hl : l.length < 9223372036854775807) : ∀ (d i k : Nat), l.length - i = d → i ≤ l.length → d < k → cohousingref40_exponents.l0 k l n (i : Nat) = some ((l.drop i).all expB && ((l.length : Int) == n))
  | d, i, 0, hd, hi, hk => by omega
  | 0, i, k + 1, hd, hi, hk => by
    obtain rfl : i = l.length := by omega
    simp only [cohousingref40_exponents.l0]
    rw [if_neg (by omega), List.drop_length, List.all_nil, Bool.true_and]
  | d + 1, i, k + 1, hd, hi, hk => by
    have ih := refExps_l0 l n hl d (i + 1) k (by omega) (by omega) (by omega)
    have hlt : i < l.length := by omega
    rw [List.drop_eq_getElem_cons hlt, List.all_cons]
    simp only [cohousingref40_exponents.l0]
    rw [if_pos (by omega), if_pos (by omega), refExponent_f, rd_of_lt hlt]
    simp only [obs]
    cases h : expB l[i] with
    | false => simp
    | true => rw [if_pos rfl, wrapN i (by omega), ih, Bool.true_and]
theorem refExps_f (l : List Int) (n : Int) (hl : l.length < 9223372036854775807) (k : Nat) (hk : l.length < k) : cohousingref40_exponents.f k l n = some (exlB l n) := by
  have := refExps_l0 l n hl l.length 0 k (by omega) (by omega) hk
  rw [List.drop_zero] at this
  unfold cohousingref40_exponents.f exlB
  rw [Bool.and_comm]
  exact this
theorem place_l0 (l : List Int) (x : Int) (hl : l.length < 9223372036854775807) : ∀ (d i k : Nat), l.length - i = d → i ≤ l.length → d < k → cohousingref40_Place.l0 k l x (i : Nat) = some (idxI x (l.drop i) i)
  | d, i, 0, hd, hi, hk => by omega
  | 0, i, k + 1, hd, hi, hk => by
    obtain rfl : i = l.length := by omega
    simp only [cohousingref40_Place.l0]
    rw [if_neg (by omega), List.drop_length]
    rfl
  | d + 1, i, k + 1, hd, hi, hk => by
    have ih := place_l0 l x hl d (i + 1) k (by omega) (by omega) (by omega)
    have hlt : i < l.length := by omega
    rw [List.drop_eq_getElem_cons hlt]
    simp only [cohousingref40_Place.l0, idxI]
    rw [if_pos (by omega), if_pos (by omega), rd_of_lt hlt, wrapN i (by omega), ih]
    by_cases h : l[i] = x
    · rw [if_pos h, if_pos h.symm]
    · rw [if_neg h, if_neg (fun e => h e.symm)]
theorem place_f (l : List Int) (x : Int) (hl : l.length < 9223372036854775807) (k : Nat) (hk : l.length < k) : cohousingref40_Place.f k l x = some (idxI x l 0) := place_l0 l x hl l.length 0 k (by omega) (by omega) hk
theorem idxI_neg (x : Int) (l : List Int) : idxI x l 0 < 0 ↔ x ∉ l := by
  constructor
  · intro h hm
    have := idxI_spec x l 0 hm
    omega
  · intro h
    rw [idxI_none x l 0 h]
    decide
theorem refOrder_l0 (l : List Int) (n : Nat) (hl : l.length = n) (hn : n < 9223372036854775807) : ∀ (d i k : Nat), n - i = d → i ≤ n → d + n < k → cohousingref40_Order.l0 k l n (i : Nat) = some (((List.range n).drop i).all fun j : Nat => decide ((j : Int) ∈ l))
  | d, i, 0, hd, hi, hk => by omega
  | 0, i, k + 1, hd, hi, hk => by
    obtain rfl : i = n := by omega
    simp only [cohousingref40_Order.l0]
    rw [if_neg (by omega), List.drop_eq_nil_of_le (by simp)]
    rfl
  | d + 1, i, k + 1, hd, hi, hk => by
    have ih := refOrder_l0 l n hl hn d (i + 1) k (by omega) (by omega) (by omega)
    simp only [cohousingref40_Order.l0]
    rw [if_pos (by omega), place_f l _ (by omega) k (by omega), range_drop (show i < n by omega), List.all_cons]
    simp only [obs]
    by_cases h : (i : Int) ∈ l
    · rw [if_neg (fun h2 => (idxI_neg _ _).1 h2 h), wrapN i (by omega), ih, decide_eq_true h, Bool.true_and]
    · rw [if_pos ((idxI_neg _ _).2 h), decide_eq_false h, Bool.false_and]
theorem perm_of_allI : ∀ (n : Nat) (l : List Int), (∀ i : Nat, i < n → (i : Int) ∈ l) → l.length = n → l.Perm ((List.range n).map fun i : Nat => (i : Int))
  | 0, l, _, hl => by
    rw [List.length_eq_zero_iff] at hl
    subst hl
    exact List.Perm.refl _
  | n + 1, l, h, hl => by
    have hm : (n : Int) ∈ l := h n (by omega)
    have h1 := perm_of_allI n (l.erase (n : Int)) (fun i hi => by
      have h2 := h i (by omega)
      exact (List.mem_erase_of_ne (by omega)).2 h2) (by rw [List.length_erase_of_mem hm]; omega)
    rw [List.range_succ, List.map_append]
    refine (List.perm_cons_erase hm).trans (((List.Perm.cons _ h1)).trans ?_)
    exact (List.perm_append_comm (l₁ := [(n : Int)]) (l₂ := (List.range n).map fun i : Nat => (i : Int)))
theorem ordF_of (n : Int) : ∀ (l ks : List Int), (∀ x ∈ l, 0 ≤ x ∧ x < n ∧ x ∉ ks) → l.Nodup → ordF n ks l = true
  | [], ks, _, _ => rfl
  | y :: l, ks, h, hd => by
    have hy := h y (by simp)
    have hd2 := List.nodup_cons.1 hd
    simp only [ordF, okD, Bool.and_eq_true, decide_eq_true_eq, Bool.not_eq_true', List.contains_eq_mem, decide_eq_false_iff_not]
    refine ⟨⟨hy.1, hy.2.1, hy.2.2⟩, ordF_of n l (ks ++ [y]) (fun x hx => ?_) hd2.2⟩
    have hxx := h x (by simp [hx])
    refine ⟨hxx.1, hxx.2.1, fun hm => ?_⟩
    rcases List.mem_append.1 hm with hm | hm
    · exact hxx.2.2 hm
    · have : x = y := by simpa using hm
      exact hd2.1 (this ▸ hx)
theorem refOrder_f (l : List Int) (n : Nat) (hl : l.length < 4611686018427387904) (k : Nat) (hk : l.length + l.length < k) : cohousingref40_Order.f k l n = some (orderB l n) := by
  unfold cohousingref40_Order.f
  by_cases h : (l.length : Int) = n
  · have hln : l.length = n := by omega
    have h0 := refOrder_l0 l n hln (by omega) n 0 k (by omega) (by omega) (by omega)
    rw [if_pos h]
    refine h0.trans ?_
    congr 1
    unfold orderB
    rw [decide_eq_true h, Bool.true_and, List.drop_zero]
    cases ho : ordF (n : Int) [] l with
    | true =>
      have := (order_spec (l := l) (n := n) (by unfold orderB; rw [decide_eq_true h, ho]; rfl))
      refine List.all_eq_true.2 fun j hj => decide_eq_true ?_
      have hm : j ∈ natL l := this.2.2.mem_iff.2 hj
      obtain ⟨y, hy, e⟩ := List.mem_map.1 hm
      have := this.2.1 y hy
      obtain rfl : y = (j : Int) := by omega
      exact hy
    | false =>
      refine Bool.eq_false_iff.2 fun hall => ?_
      rw [List.all_eq_true] at hall
      have hp := perm_of_allI n l (fun i hi => of_decide_eq_true (hall i (List.mem_range.2 hi))) hln
      have : ordF (n : Int) [] l = true := ordF_of _ l [] (fun x hx => by
        have := hp.mem_iff.1 hx
        obtain ⟨i, hi, e⟩ := List.mem_map.1 this
        have := List.mem_range.1 hi
        refine ⟨by omega, by omega, by simp⟩) (hp.nodup_iff.2 (List.pairwise_map.2 (List.Pairwise.imp (fun hab e => hab (by omega)) List.nodup_range)))
      rw [this] at ho
      cases ho
  · rw [if_neg h]
    unfold orderB
    rw [decide_eq_false h, Bool.false_and]
theorem refAsked_f (l0 l1 l2 : List S23) (h0 : l0.length < 9223372036854775807) (h1 : l1.length < 9223372036854775807) (h2 : l2.length < 9223372036854775807) (k : Nat) (hk : l0.length + l1.length + l2.length + 100000 < k) : cohousingref40_Asked.f k l0 l1 l2 = some (askV l0 l1 l2) := by
  unfold cohousingref40_Asked.f askV
  rw [refCiphers_f l0 h0 k (by omega), refCiphers_f l1 h1 k (by omega), refCiphers_f l2 h2 k (by omega)]
  simp only [obs]
  have e : (ciphsB l0 && (ciphsB l1 && (ciphsB l2 && (decide (l1.length = l0.length) && decide (l2.length = l0.length))))) = (okL l0.length l0 && (okL l0.length l1 && okL l0.length l2)) := by
    unfold okL
    cases ciphsB l0 <;> cases ciphsB l1 <;> cases ciphsB l2 <;> simp
  rw [e]
  cases hok : (okL l0.length l0 && (okL l0.length l1 && okL l0.length l2)) with
  | false => simp
  | true =>
    simp only [Bool.and_eq_true] at hok
    obtain ⟨g0, g1, g2⟩ := hok
    have n0 := okL_len g0
    have hc : ∀ l, okL l0.length l = true → ciphsB l = true := fun l h => by simp only [okL, Bool.and_eq_true] at h; exact h.1
    have f0 := flatC_len l0
    have f1 := flatC_len l1
    have f2 := flatC_len l2
    have m1 := okL_len g1
    have m2 := okL_len g2
    have hnl : (askNums l0 l1 l2).length ≤ 1000 := by
      simp only [askNums, List.length_append, List.length_cons]
      omega
    rw [if_pos rfl, if_pos n0.2.2, refInts_f (askNums l0 l1 l2) (by omega) (askNums_ok (hc _ g0) (hc _ g1) (hc _ g2) n0.2.2) k (by omega), if_pos rfl]
    simp only [obs]
    rw [if_pos (sumB_range _)]
end Go.Proofs.YtkaebblbmoolaaaDoor.P
