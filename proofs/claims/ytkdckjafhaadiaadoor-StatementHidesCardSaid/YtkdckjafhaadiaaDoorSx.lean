/- Chapter 43: the households 1, 2 and so on, sealed; the statement of each one. -/
import Derived.Test.YtkdckjafhaadiaaDoorSB
import Derived.Test.YtkdckjafhaadiaaDoorPx9
import Derived.Test.YtkdckjafhaadiaaDoorPx8
import Derived.Test.YtkdckjafhaadiaaDoorPx7
set_option linter.unusedSimpArgs false
set_option linter.unusedVariables false
namespace Go.Proofs.YtkdckjafhaadiaaDoor.P
open Go Go.RowKit Go.Proofs.YtkdckjafhaadiaaDoorW.PrintWords Go.Proofs.YtkdckjafhaadiaaDoorW.PrintLast Go.Proofs.YtkdckjafhaadiaaDoorW.PrintMore

theorem rd_getLL {ls : List (List S50)} {k : Nat} (h : k < ls.length) : rd_L7 ls (k : Int) = ls[k] := by unfold rd_L7; simp [List.getD_eq_getElem?_getD, List.getElem?_eq_getElem h]
def sealOk (h : Int) (lines : List (List S50)) : Bool := lines.all (fun l => keyB h && linesB l)
def sealG (h : Int) : Nat → List (List S50) → List S45
  | _, [] => []
  | i, l :: ls => ⟨((i + 1 : Nat) : Int), h, cmL h l⟩ :: sealG h (i + 1) ls
theorem sealG_len (h : Int) : ∀ (ls : List (List S50)) (i : Nat), (sealG h i ls).length = ls.length
  | [], _ => rfl
  | l :: ls, i => by simp [sealG, sealG_len h ls (i + 1)]
theorem sealG_get (h : Int) : ∀ (ls : List (List S50)) (j i : Nat) (hi : i < ls.length), (sealG h j ls)[i]? = some ⟨((j + i + 1 : Nat) : Int), h, cmL h ls[i]⟩
  | [], _, i, hi => by simp at hi
  | l :: ls, j, 0, hi => rfl
  | l :: ls, j, i + 1, hi => by
    have ih := sealG_get h ls (j + 1) i (by simpa using hi)
    show (sealG h (j + 1) ls)[i]? = _
    rw [ih, List.getElem_cons_succ, show j + 1 + i = j + (i + 1) from by omega]
theorem sealG_at (h : Int) (ls : List (List S50)) {i : Nat} (hi : i < ls.length) : (sealG h 0 ls)[i]'(by rw [sealG_len]; exact hi) = ⟨((i + 1 : Nat) : Int), h, cmL h ls[i]⟩ := by
  have e := sealG_get h ls 0 i hi
  rw [Nat.zero_add] at e
  exact (List.getElem?_eq_some_iff.1 e).2
theorem sealOk_at {h : Int} {lines : List (List S50)} (ha : sealOk h lines = true) {i : Nat} (hi : i < lines.length) : keyB h = true ∧ linesB lines[i] = true := by
  have e := List.all_eq_true.1 ha _ (List.getElem_mem hi)
  simpa only [Bool.and_eq_true] using e
theorem homeB_small {i : Nat} (hi : i < 64) : homeB ((i + 1 : Nat) : Int) = true := btw_iff.2 ⟨by omega, by omega⟩
theorem sealed_l0 (h : Int) (lines : List (List S50)) (hn : lines.length ≤ 20) : ∀ (d i k : Nat), lines.length - i = d → i ≤ lines.length → d < k →
    cohousinglaw43_sealed.l0 k h ((sealG h 0 lines).take i) lines (lines.length : Int) (i : Nat) = some (if (lines.drop i).all (fun l => keyB h && linesB l) then (sealG h 0 lines, true) else ([], false))
  | 0, i, k, hd, hi, hk => by
    obtain ⟨k, rfl⟩ : ∃ n, k = n + 1 := ⟨k - 1, by omega⟩
    obtain rfl : i = lines.length := by omega
    simp only [cohousinglaw43_sealed.l0]
    rw [if_neg (by omega), List.drop_length, List.take_of_length_le (by rw [sealG_len]; omega)]
    rfl
  | d + 1, i, k, hd, hi, hk => by
    obtain ⟨k, rfl⟩ : ∃ n, k = n + 1 := ⟨k - 1, by omega⟩
    have hlt : i < lines.length := by omega
    have ih := sealed_l0 h lines hn d (i + 1) k (by omega) (by omega) (by omega)
    have hw : wrap64 ((i : Int) + 1) = ((i + 1 : Nat) : Int) := by unfold wrap64; omega
    simp only [cohousinglaw43_sealed.l0]
    rw [if_pos (by omega), if_pos (by omega), if_pos (by omega), hw, rd_getLL hlt, seal_f]
    simp only [obs]
    unfold sealV
    rw [homeB_small (show i < 64 by omega), Bool.true_and, List.drop_eq_getElem_cons hlt, List.all_cons]
    cases hc : (keyB h && linesB lines[i]) with
    | false =>
      rw [if_neg (show ¬ (false = true) by decide), if_neg (show ¬ ((1 : Int) = 0) by decide)]
      simp
    | true =>
      rw [if_pos rfl, if_pos rfl, if_pos (by rw [List.length_take]; omega), Bool.true_and, ← ih]
      rw [List.take_succ_eq_append_getElem (show i < (sealG h 0 lines).length by rw [sealG_len]; exact hlt), sealG_at h lines hlt]
theorem sealed_f (h : Int) (lines : List (List S50)) (hn : lines.length ≤ 20) (k : Nat) (hk : 21 ≤ k) :
    cohousinglaw43_sealed.f k h lines = some (if sealOk h lines then (sealG h 0 lines, true) else ([], false)) :=
  sealed_l0 h lines hn lines.length 0 k (by omega) (by omega) (by omega)
theorem total_l0 (lines : List (List S50)) (hn : lines.length ≤ 20) : ∀ (d i k : Nat) (t : Int), lines.length - i = d → i ≤ lines.length → d < k → ∃ r, cohousinglaw43_total.l0 k t lines (lines.length : Int) (i : Nat) = some r
  | 0, i, k, t, hd, hi, hk => by
    obtain ⟨k, rfl⟩ : ∃ n, k = n + 1 := ⟨k - 1, by omega⟩
    simp only [cohousinglaw43_total.l0]
    rw [if_neg (by omega)]
    exact ⟨_, rfl⟩
  | d + 1, i, k, t, hd, hi, hk => by
    obtain ⟨k, rfl⟩ : ∃ n, k = n + 1 := ⟨k - 1, by omega⟩
    simp only [cohousinglaw43_total.l0]
    rw [if_pos (by omega), if_pos (by omega), if_pos (by omega), show wrap64 ((i : Int) + 1) = ((i + 1 : Nat) : Int) by unfold wrap64; omega]
    exact total_l0 lines hn d (i + 1) k _ (by omega) (by omega) (by omega)
theorem total_f (lines : List (List S50)) (hn : lines.length ≤ 20) (k : Nat) (hk : 21 ≤ k) : ∃ r, cohousinglaw43_total.f k lines = some r :=
  total_l0 lines hn lines.length 0 k 0 (by omega) (by omega) (by omega)
theorem sealG_rise (h : Int) : ∀ (ls : List (List S50)) (i : Nat), riseB S45.f0 (sealG h i ls) = true
  | [], _ => rfl
  | [l], _ => rfl
  | l :: l2 :: ls, i => by
    have ih := sealG_rise h (l2 :: ls) (i + 1)
    show (decide (((i + 1 : Nat) : Int) < ((i + 1 + 1 : Nat) : Int)) && riseB S45.f0 (sealG h (i + 1) (l2 :: ls))) = true
    rw [ih, decide_eq_true (by omega)]
    rfl
theorem sealG_all {h : Int} {lines : List (List S50)} (ha : sealOk h lines = true) (h1 : 1 ≤ lines.length) (hn : lines.length ≤ 20) : allB (sealG h 0 lines) = true := by
  have e0 : (rd_T45 (sealG h 0 lines) 0).f1 = h := by
    have e := rd_getS (l := sealG h 0 lines) (k := 0) (by rw [sealG_len]; omega)
    rw [sealG_at h lines (by omega)] at e
    rw [show ((0 : Nat) : Int) = 0 from rfl] at e
    rw [e]
  unfold allB
  rw [e0, sealG_rise, Bool.and_true, sealG_len, btw_iff.2 ⟨by omega, by omega⟩, Bool.true_and]
  refine List.all_eq_true.2 fun x hx => ?_
  obtain ⟨i, hi, rfl⟩ := List.getElem_of_mem hx
  have hi' : i < lines.length := by rw [sealG_len] at hi; exact hi
  obtain ⟨k1, k2⟩ := sealOk_at ha hi'
  rw [sealG_at h lines hi']
  have hl := (show lines[i].length ≤ 64 by simp only [linesB, Bool.and_eq_true, decide_eq_true_eq] at k2; exact k2.1)
  have hm := cmL_mem k1 k2
  simp only [okS, homeB_small (show i < 64 by omega), k1, hm, cmL_len, decide_eq_true hl, beq_self_eq_true, Bool.and_self]
theorem placeG (h : Int) : ∀ (ls : List (List S50)) (j i : Nat), j ≤ i → i < j + ls.length → fstL (fun x : S45 => x.f0 == ((i + 1 : Nat) : Int)) (sealG h j ls) j = (i : Int)
  | [], j, i, h1, h2 => by simp at h2; omega
  | l :: ls, j, i, h1, h2 => by
    simp only [sealG, fstL]
    by_cases e : j = i
    · subst e
      rw [if_pos (by simp)]
    · rw [if_neg (by simp; omega)]
      exact placeG h ls (j + 1) i (by omega) (by simp only [List.length_cons] at h2; omega)
theorem way_other : ∀ (f i n : Nat) (path : List Int) (x r r' : Int), wayV f r i n path x = true → wayV f r' i n path x = (r == r')
  | 0, i, n, path, x, r, r', h => by
    simp only [wayV, Bool.and_eq_true, beq_iff_eq] at h ⊢
    rw [h.1, h.2, Bool.true_and]
  | f + 1, i, n, path, x, r, r', h => by
    unfold wayV at h ⊢
    by_cases h1 : 1 < n
    · rw [if_pos h1] at h ⊢
      by_cases h2 : sib i ≥ n
      · rw [if_pos h2] at h ⊢
        exact way_other f _ _ _ _ r r' h
      · rw [if_neg h2] at h ⊢
        cases path with
        | nil => simp at h
        | cons p ps => exact way_other f _ _ _ _ r r' h
    · rw [if_neg h1] at h ⊢
      simp only [Bool.and_eq_true, beq_iff_eq] at h ⊢
      rw [h.1, h.2, Bool.true_and]
/-- The statement of a household among commitments: what Make gives, and what Check says of it. -/
theorem own_statement (h month : Int) (lines : List (List S50)) (hn : lines.length ≤ 20) (hm : monthB month = true) (ha : sealOk h lines = true) {i : Nat} (hi : i < lines.length) :
    makeV month (sealG h 0 lines) ((i + 1 : Nat) : Int) lines[i] = (((i + 1 : Nat) : Int), month, (i : Int), h, lines[i], pathV 10 i (firstV (lfL month (sealG h 0 lines))), 0) ∧
    ∀ r, checkS r ((sealG h 0 lines).length : Int) ((i + 1 : Nat) : Int) month (i : Int) h lines[i] (pathV 10 i (firstV (lfL month (sealG h 0 lines)))) = (topV 10 (firstV (lfL month (sealG h 0 lines))) == r, 0) := by
  obtain ⟨k1, k2⟩ := sealOk_at ha hi
  have hall := sealG_all ha (by omega) hn
  have hg := sealG_at h lines hi
  have hrd : rd_T45 (sealG h 0 lines) (i : Int) = ⟨((i + 1 : Nat) : Int), h, cmL h lines[i]⟩ := by rw [rd_getS (by rw [sealG_len]; exact hi), hg]
  have hpl : placeV ((i + 1 : Nat) : Int) (sealG h 0 lines) = (i : Int) := placeG h lines 0 i (Nat.zero_le _) (by omega)
  have hlen : (lfL month (sealG h 0 lines)).length = lines.length := by rw [lfL_len, sealG_len]
  refine ⟨?_, fun r => ?_⟩
  · unfold makeV
    rw [hm, hall, homeB_small (show i < 64 by omega), k2, hpl, hrd]
    rw [if_pos (by rfl), if_neg (by omega), if_pos (by simp), Int.toNat_natCast]
  · unfold checkS
    have hf : formB ((i + 1 : Nat) : Int) month h lines[i] = true := by unfold formB; rw [homeB_small (show i < 64 by omega), hm, k1, k2]; rfl
    rw [if_pos hf]
    have hlf : lfI month ⟨((i + 1 : Nat) : Int), h, cmL h lines[i]⟩ = rd (lfL month (sealG h 0 lines)) (i : Int) := by
      rw [rd_getI (by rw [hlen]; exact hi)]
      simp only [lfL, List.getElem_map, hg]
    have hc := check_own (l := lfL month (sealG h 0 lines)) (i := i) (by rw [hlen]; exact hi) (by rw [hlen]; omega)
    rw [hlen] at hc
    rw [hlf, sealG_len]
    refine congrArg (fun b => (b, (0 : Int))) ?_
    unfold checkV at hc ⊢
    rw [if_neg (by omega)] at hc ⊢
    exact way_other _ _ _ _ _ _ r hc
theorem sameLines_l0 (l : List S50) (hn : l.length ≤ 1000000) : ∀ (d i k : Nat), l.length - i = d → i ≤ l.length → d < k → cohousingref43_SameLines.l0 k l l (i : Nat) = some true
  | 0, i, k, hd, hi, hk => by
    obtain ⟨k, rfl⟩ : ∃ n, k = n + 1 := ⟨k - 1, by omega⟩
    simp only [cohousingref43_SameLines.l0]
    rw [if_neg (by omega)]
  | d + 1, i, k, hd, hi, hk => by
    obtain ⟨k, rfl⟩ : ∃ n, k = n + 1 := ⟨k - 1, by omega⟩
    simp only [cohousingref43_SameLines.l0]
    rw [if_pos (by omega), if_pos (by omega), if_pos (by omega), if_neg (by simp), show wrap64 ((i : Int) + 1) = ((i + 1 : Nat) : Int) by unfold wrap64; omega]
    exact sameLines_l0 l hn d (i + 1) k (by omega) (by omega) (by omega)
theorem sameLines_f (l : List S50) (hn : l.length ≤ 1000000) (k : Nat) (hk : l.length < k) : cohousingref43_SameLines.f k l l = some true := by
  unfold cohousingref43_SameLines.f
  rw [if_pos rfl]
  exact sameLines_l0 l hn l.length 0 k (by omega) (by omega) hk
end Go.Proofs.YtkdckjafhaadiaaDoor.P
