/- Chapter 40: orders, places, mixed votes: what the parts of Shuffle compute. -/
import Derived.Test.YtkaebblbmoolaaaDoorPbA
import Derived.Test.YtkaebblbmoolaaaDoorPm
import Derived.Test.YtkaebblbmoolaaaDoorXchk
import Derived.Test.YtkaebblbmoolaaaDoorXexps
import Derived.Test.YtkaebblbmoolaaaDoorPx4
import Derived.Test.YtkaebblbmoolaaaDoorPx4
set_option linter.unusedSimpArgs false
set_option linter.unusedVariables false
namespace Go.Proofs.YtkaebblbmoolaaaDoor.P
open Go Go.RowKit Go.Proofs.YtkaebblbmoolaaaDoorW.PrintWords Go.Proofs.YtkaebblbmoolaaaDoorW.PrintLast Go.Proofs.YtkaebblbmoolaaaDoorW.PrintMore

theorem ordF_spec (n : Int) : ∀ (l ks : List Int), ordF n ks l = true → (∀ x ∈ l, 0 ≤ x ∧ x < n ∧ x ∉ ks) ∧ l.Nodup
  | [], ks, _ => ⟨fun x hx => (nomatch hx), List.nodup_nil⟩
  | y :: l, ks, h => by
    simp only [ordF, okD, Bool.and_eq_true, decide_eq_true_eq, Bool.not_eq_true', List.contains_eq_mem, decide_eq_false_iff_not] at h
    obtain ⟨⟨h0, h1, h2⟩, h3⟩ := h
    obtain ⟨q1, q2⟩ := ordF_spec n l (ks ++ [y]) h3
    refine ⟨fun x hx => ?_, List.nodup_cons.2 ⟨fun hy => (q1 y hy).2.2 (by simp), q2⟩⟩
    rcases List.mem_cons.1 hx with rfl | hx
    · exact ⟨h0, h1, h2⟩
    · have := q1 x hx
      exact ⟨this.1, this.2.1, fun hm => this.2.2 (by simp [hm])⟩
/-- An order of n things, as natural numbers. -/
def natL (l : List Int) : List Nat := l.map Int.toNat
theorem order_spec {l : List Int} {n : Nat} (h : orderB l n = true) : l.length = n ∧ (∀ x ∈ l, 0 ≤ x ∧ x < n) ∧ (natL l).Perm (List.range n) := by
  simp only [orderB, Bool.and_eq_true, decide_eq_true_eq] at h
  obtain ⟨h0, h1⟩ := h
  obtain ⟨q1, q2⟩ := ordF_spec n l [] h1
  have hl : l.length = n := by omega
  refine ⟨hl, fun x hx => ⟨(q1 x hx).1, (q1 x hx).2.1⟩, ?_⟩
  refine Pm.perm_of_nodup n _ ?_ ?_ (by simp [natL, hl])
  · refine (List.pairwise_map.2 ?_ : (l.map Int.toNat).Nodup)
    refine List.Pairwise.imp_of_mem ?_ q2
    intro a b ha hb hab e
    have := q1 a ha
    have := q1 b hb
    exact hab (by omega)
  · intro x hx
    obtain ⟨y, hy, rfl⟩ := List.mem_map.1 hx
    have := q1 y hy
    omega
theorem rd_of_lt {l : List Int} {i : Nat} (h : i < l.length) : rd l i = l[i] := by simp [rd, List.getD_eq_getElem?_getD, List.getElem?_eq_getElem h]
theorem order_rd {l : List Int} {n : Nat} (h : orderB l n = true) {i : Nat} (hi : i < n) : 0 ≤ rd l i ∧ rd l i < n := by
  obtain ⟨h0, h1, _⟩ := order_spec h
  rw [rd_of_lt (by omega)]
  exact h1 _ (List.getElem_mem _)
def exlB (l : List Int) (n : Int) : Bool := decide ((l.length : Int) = n) && l.all expB
theorem exponents_f (l : List Int) (n : Int) : ballot_exponents.f l n = some (exlB l n) := rfl
theorem exps_rd {l : List Int} {n : Nat} (h : exlB l n = true) {i : Nat} (hi : i < n) : expB (rd l i) = true := by
  simp only [exlB, Bool.and_eq_true, decide_eq_true_eq, List.all_eq_true] at h
  rw [rd_of_lt (by omega)]
  exact h.2 _ (List.getElem_mem _)
theorem exps_len {l : List Int} {n : Nat} (h : exlB l n = true) : l.length = n := by
  simp only [exlB, Bool.and_eq_true, decide_eq_true_eq] at h
  omega
theorem ciphs_rd {l : List S23} (h : ciphsB l = true) {i : Int} (h0 : 0 ≤ i) (hi : i < l.length) : memB (rd_T23 l i).f0 = true ∧ memB (rd_T23 l i).f1 = true := by
  simp only [ciphsB, Bool.and_eq_true, List.all_eq_true] at h
  have hm : rd_T23 l i ∈ l := by
    unfold rd_T23
    rw [List.getD_eq_getElem?_getD, List.getElem?_eq_getElem (by omega)]
    exact List.getElem_mem _
  have := h.2.2 _ hm
  simpa only [ciphB, Bool.and_eq_true] using this
/-- The first place of a number, or -1. -/
def idxI (x : Int) : List Int → Nat → Int
  | [], _ => -1
  | y :: l, i => if x = y then i else idxI x l (i + 1)
theorem idxI_spec (x : Int) : ∀ (l : List Int) (i : Nat), x ∈ l → (i : Int) ≤ idxI x l i ∧ idxI x l i < (i + l.length : Nat) ∧ l[(idxI x l i).toNat - i]? = some x
  | [], i, h => by cases h
  | y :: l, i, h => by
    unfold idxI
    by_cases e : x = y
    · rw [if_pos e]
      refine ⟨by omega, by simp only [List.length_cons]; omega, ?_⟩
      simp [e]
    · rw [if_neg e]
      have := idxI_spec x l (i + 1) (by rcases List.mem_cons.1 h with h | h; exact absurd h e; exact h)
      obtain ⟨q1, q2, q3⟩ := this
      refine ⟨by omega, by simp only [List.length_cons]; omega, ?_⟩
      rw [show (idxI x l (i + 1)).toNat - i = ((idxI x l (i + 1)).toNat - (i + 1)) + 1 from by omega, List.getElem?_cons_succ]
      exact q3
theorem idxI_none (x : Int) : ∀ (l : List Int) (i : Nat), x ∉ l → idxI x l i = -1
  | [], i, h => rfl
  | y :: l, i, h => by
    unfold idxI
    rw [if_neg (fun e => h (by simp [e])), idxI_none x l (i + 1) (fun e => h (by simp [e]))]
theorem index_l0 (l : List Int) (x : Int) (hl : l.length < 9223372036854775807) : ∀ (d i k : Nat), l.length - i = d → i ≤ l.length → d < k → slices_Index_int_int.l0 k l x (l.length : Int) (i : Nat) = some (idxI x (l.drop i) i)
  | d, i, 0, hd, hi, hk => by omega
  | 0, i, k + 1, hd, hi, hk => by
    obtain rfl : i = l.length := by omega
    simp only [slices_Index_int_int.l0]
    rw [if_neg (by omega), List.drop_length]
    rfl
  | d + 1, i, k + 1, hd, hi, hk => by
    have ih := index_l0 l x hl d (i + 1) k (by omega) (by omega) (by omega)
    have hlt : i < l.length := by omega
    rw [List.drop_eq_getElem_cons hlt]
    simp only [slices_Index_int_int.l0, idxI]
    rw [if_pos (by omega), if_pos (by omega), if_pos (by omega), rd_of_lt hlt, wrapN i (by omega), ih]
    split <;> rfl
theorem index_f (l : List Int) (x : Int) (hl : l.length < 9223372036854775807) (k : Nat) (hk : l.length < k) : slices_Index_int_int.f k l x = some (idxI x l 0) := by
  have := index_l0 l x hl l.length 0 k (by omega) (by omega) hk
  exact this
theorem order_idx {l : List Int} {n : Nat} (h : orderB l n = true) {i : Nat} (hi : i < n) : 0 ≤ idxI i l 0 ∧ idxI i l 0 < n ∧ l[(idxI i l 0).toNat]? = some (i : Int) := by
  obtain ⟨h0, h1, h2⟩ := order_spec h
  have hm : i ∈ natL l := h2.mem_iff.2 (List.mem_range.2 hi)
  obtain ⟨y, hy, e⟩ := List.mem_map.1 hm
  have := h1 y hy
  obtain rfl : y = (i : Int) := by omega
  have := idxI_spec (i : Int) l 0 hy
  rw [Nat.sub_zero, Nat.zero_add, h0] at this
  exact ⟨by omega, this.2.1, this.2.2⟩
/-- The votes in an order, encrypted anew. -/
def mixAt (k : Int) (l : List S23) (o r : List Int) (j : Nat) : S23 := ⟨nA (rd_T23 l (rd o j)).f0 (rd r j), nB k (rd_T23 l (rd o j)).f1 (rd r j)⟩
def mixL (k : Int) (l : List S23) (o r : List Int) : List S23 := (List.range l.length).map (mixAt k l o r)
theorem mixL_len (k : Int) (l : List S23) (o r : List Int) : (mixL k l o r).length = l.length := by simp [mixL]
theorem mixL_rd (k : Int) (l : List S23) (o r : List Int) {j : Nat} (hj : j < l.length) : rd_T23 (mixL k l o r) (j : Int) = mixAt k l o r j := by
  unfold rd_T23 mixL
  simp [List.getD_eq_getElem?_getD, hj]
theorem mixed_l0 (k : Int) (l : List S23) (o r : List Int) (hk : keyB k = true) (hl : ciphsB l = true) (ho : orderB o l.length = true) (hr : exlB r l.length = true) :
    ∀ (d i n : Nat), l.length - i = d → i ≤ l.length → d < n → ballot_key_mixed.l0 n k l o r ((List.range i).map (mixAt k l o r) ++ List.replicate (l.length - i) z23) (l.length : Int) (i : Nat) = some (mixL k l o r)
  | d, i, 0, hd, hi, hn => by omega
  | 0, i, n + 1, hd, hi, hn => by
    obtain rfl : i = l.length := by omega
    simp only [ballot_key_mixed.l0]
    rw [if_neg (by omega), Nat.sub_self, List.replicate_zero, List.append_nil]
    rfl
  | d + 1, i, n + 1, hd, hi, hn => by
    have ih := mixed_l0 k l o r hk hl ho hr d (i + 1) n (by omega) (by omega) (by omega)
    have h64 : l.length ≤ 64 := by simp only [ciphsB, Bool.and_eq_true, decide_eq_true_eq] at hl; omega
    have hlt : i < l.length := by omega
    have q := order_rd ho hlt
    have q2 := ciphs_rd hl q.1 q.2
    have q3 := exps_rd hr hlt
    have e0 := (order_spec ho).1
    have e1 := exps_len hr
    have eq : anewV k (rd_T23 l (rd o i)).f0 (rd_T23 l (rd o i)).f1 (rd r i) = (nA (rd_T23 l (rd o i)).f0 (rd r i), nB k (rd_T23 l (rd o i)).f1 (rd r i), true) := by
      unfold anewV okN
      rw [hk, q3, q2.1, q2.2]
      rfl
    simp only [ballot_key_mixed.l0]
    rw [if_pos (by omega), if_pos (by omega), if_pos (by omega), if_pos q.1, if_pos q.2, if_pos (by omega), anew_f, obs, eq]
    simp only
    rw [if_pos (by simp; omega), Int.toNat_natCast, wrapN i (by omega)]
    have e : ((List.range i).map (mixAt k l o r) ++ List.replicate (l.length - i) z23).set i (⟨nA (rd_T23 l (rd o i)).f0 (rd r i), nB k (rd_T23 l (rd o i)).f1 (rd r i)⟩ : S23) = (List.range (i + 1)).map (mixAt k l o r) ++ List.replicate (l.length - (i + 1)) z23 := by
      rw [show l.length - i = (l.length - (i + 1)) + 1 from by omega, List.replicate_succ, List.set_append_right _ _ (by simp), List.range_succ, List.map_append, List.append_assoc]
      simp [mixAt]
    rw [e, ih]
theorem mixed_f (k : Int) (l : List S23) (o r : List Int) (hk : keyB k = true) (hl : ciphsB l = true) (ho : orderB o l.length = true) (hr : exlB r l.length = true) (n : Nat) (hn : 100 ≤ n) : ballot_key_mixed.f n k l o r = some (mixL k l o r) := by
  have h64 : l.length ≤ 64 := by simp only [ciphsB, Bool.and_eq_true, decide_eq_true_eq] at hl; omega
  unfold ballot_key_mixed.f
  rw [if_pos (by omega), if_pos (by omega), Int.toNat_natCast]
  have := mixed_l0 k l o r hk hl ho hr l.length 0 n (by omega) (by omega) (by omega)
  rw [Nat.sub_zero] at this
  exact this
theorem mixL_ciphs (k : Int) (l : List S23) (o r : List Int) (hk : keyB k = true) (hl : ciphsB l = true) (ho : orderB o l.length = true) (hr : exlB r l.length = true) : ciphsB (mixL k l o r) = true := by
  have h1 : 1 ≤ l.length ∧ l.length ≤ 64 := by simp only [ciphsB, Bool.and_eq_true, decide_eq_true_eq] at hl; omega
  unfold ciphsB
  rw [mixL_len, decide_eq_true h1.1, decide_eq_true h1.2, Bool.true_and, Bool.true_and, List.all_eq_true]
  intro x hx
  obtain ⟨j, hj, rfl⟩ := List.mem_map.1 hx
  have hlt := List.mem_range.1 hj
  have q := order_rd ho hlt
  have q2 := ciphs_rd hl q.1 q.2
  have q3 := exps_rd hr hlt
  simp only [ciphB, mixAt, nA_mem q2.1 q3, nB_mem hk q2.2 q3, Bool.and_self]
/-- One link of a mix. -/
def linkAt (first second r s : List Int) (bits : List Bool) (i : Nat) : S53 := if rdOf false bits (i : Int) = true then ⟨i, idxI i second 0, rd s (idxI i second 0)⟩ else ⟨rd first i, i, rd r i⟩
def shufOk (k : Int) (l : List S23) (f s r t : List Int) : Bool := keyB k && (ciphsB l && (orderB f l.length && (orderB s l.length && (exlB r l.length && exlB t l.length))))
def shufMid (k : Int) (l : List S23) (f r : List Int) : List S23 := mixL k l f r
def shufOut (k : Int) (l : List S23) (f s r t : List Int) : List S23 := mixL k (mixL k l f r) s t
def shufBits (k : Int) (l : List S23) (f s r t : List Int) : List Bool := (askV l (shufMid k l f r) (shufOut k l f s r t)).1
def shufLinks (k : Int) (l : List S23) (f s r t : List Int) : List S53 := (List.range l.length).map (linkAt f s r t (shufBits k l f s r t))
def shufV (k : Int) (l : List S23) (f s r t : List Int) : List S23 × List S23 × List S53 × Int :=
  if shufOk k l f s r t then (shufMid k l f r, shufOut k l f s r t, shufLinks k l f s r t, 0) else ([], [], [], 1)
theorem shuf_parts {k : Int} {l : List S23} {f s r t : List Int} (h : shufOk k l f s r t = true) : keyB k = true ∧ ciphsB l = true ∧ orderB f l.length = true ∧ orderB s l.length = true ∧ exlB r l.length = true ∧ exlB t l.length = true := by
  simpa only [shufOk, Bool.and_eq_true] using h
theorem ciphs_okL {l : List S23} {n : Nat} (h : ciphsB l = true) (hn : l.length = n) : okL n l = true := by simp [okL, h, hn]
theorem shuf_ask {k : Int} {l : List S23} {f s r t : List Int} (h : shufOk k l f s r t = true) : askV l (shufMid k l f r) (shufOut k l f s r t) = (shufBits k l f s r t, 0) ∧ (shufBits k l f s r t).length = l.length := by
  obtain ⟨h0, h1, h2, h3, h4, h5⟩ := shuf_parts h
  have c1 : ciphsB (shufMid k l f r) = true := mixL_ciphs k l f r h0 h1 h2 h4
  have e1 : (shufMid k l f r).length = l.length := mixL_len _ _ _ _
  have c2 : ciphsB (shufOut k l f s r t) = true := mixL_ciphs k _ s t h0 c1 (by rw [← e1] at h3; exact h3) (by rw [← e1] at h5; exact h5)
  have e2 : (shufOut k l f s r t).length = l.length := (mixL_len _ _ _ _).trans e1
  unfold shufBits
  unfold askV
  rw [ciphs_okL h1 rfl, ciphs_okL c1 e1, ciphs_okL c2 e2]
  exact ⟨rfl, bitsL_len _ _⟩
end Go.Proofs.YtkaebblbmoolaaaDoor.P
