/- Layer 36: less, holds; CauseStates answers true. -/
import Derived.Test.YtjdhnhfglpogmaaLawU
import Derived.Test.YtjdhnhfglpogmaaPx10
import Derived.Test.YtjdhnhfglpogmaaPx11
set_option linter.unusedSimpArgs false
set_option linter.unusedVariables false
namespace Go.Proofs.Ytjdhnhfglpogmaa.P
open Go Go.RowKit Go.Proofs.YtjdhnhfglpogmaaW.PrintWords Go.Proofs.YtjdhnhfglpogmaaW.PrintLast Go.Proofs.YtjdhnhfglpogmaaW.PrintMore

theorem lt_of_bit {a b i : Nat} (ha : a.testBit i = false) (hb : b.testBit i = true) (h : ∀ j, i < j → a.testBit j = b.testBit j) : a < b := by
  have e : a >>> (i + 1) = b >>> (i + 1) := Nat.eq_of_testBit_eq (fun j => by rw [Nat.testBit_shiftRight, Nat.testBit_shiftRight]; exact h _ (by omega))
  rw [Nat.shiftRight_eq_div_pow, Nat.shiftRight_eq_div_pow, Nat.pow_succ, ← Nat.div_div_eq_div_mul, ← Nat.div_div_eq_div_mul] at e
  rw [Nat.testBit_eq_decide_div_mod_eq] at ha hb
  simp only [decide_eq_false_iff_not, decide_eq_true_eq] at ha hb
  have hlt : a / 2 ^ i < b / 2 ^ i := by omega
  refine Nat.lt_of_not_le (fun hle => ?_)
  have := Nat.div_le_div_right (c := 2 ^ i) hle
  omega
theorem less_ev (m s t : Nat) (hm : m ≤ 12) (hs : s < 2 ^ m) (ht : t < 2 ^ m) (hlt : s < t) : Ev (fun k => cohousinglaw36_less.f k (stBits m s) (stBits m t)) true := by
  have h : ∀ d j, m - j = d → j ≤ m → (∀ q, q < j → s.testBit (m - 1 - q) = t.testBit (m - 1 - q)) → Ev (fun k => cohousinglaw36_less.l0 k (stBits m s) (stBits m t) (j : Nat)) true := by
    intro d
    induction d with
    | zero =>
      intro j hd hj hq
      exfalso
      have : s = t := by
        refine Nat.eq_of_testBit_eq (fun i => ?_)
        by_cases hi : i < m
        · have := hq (m - 1 - i) (by omega)
          rwa [show m - 1 - (m - 1 - i) = i by omega] at this
        · rw [Nat.testBit_lt_two_pow (Nat.lt_of_lt_of_le hs (Nat.pow_le_pow_right (by omega) (by omega))), Nat.testBit_lt_two_pow (Nat.lt_of_lt_of_le ht (Nat.pow_le_pow_right (by omega) (by omega)))]
      omega
    | succ d ih =>
      intro j hd hj hq
      have l1 := stBits_len m s
      have l2 := stBits_len m t
      have g1 := stBits_get m s j (by omega)
      have g2 := stBits_get m t j (by omega)
      by_cases he : s.testBit (m - 1 - j) = t.testBit (m - 1 - j)
      · have h2 := ih (j + 1) (by omega) (by omega) (fun q hq' => by
          by_cases hqj : q = j
          · rw [hqj]; exact he
          · exact hq q (by omega))
        refine Ev.step (fun k => ?_) (Ev.step (g := fun k => cohousinglaw36_less.j1 k (stBits m s) (stBits m t) (j : Nat) true) (fun k => ?_) h2)
        · simp only [cohousinglaw36_less.l0]
          rw [if_pos (by omega), decide_eq_true (by omega)]
        · simp only [cohousinglaw36_less.j1, if_true]
          rw [if_pos (by omega), if_pos (by omega), if_pos (by omega), if_neg (show ¬ (rdOf false (stBits m s) (j : Int) != rdOf false (stBits m t) (j : Int)) = true from by
            show ¬ ((stBits m s).getD j false != (stBits m t).getD j false) = true
            rw [g1, g2, he]; simp), wrapN j (by omega)]
      · have ht1 : t.testBit (m - 1 - j) = true := by
          cases hc : t.testBit (m - 1 - j) with
          | true => rfl
          | false =>
            exfalso
            have hs1 : s.testBit (m - 1 - j) = true := by
              cases hc2 : s.testBit (m - 1 - j) with
              | true => rfl
              | false => exact absurd (hc2.trans hc.symm) he
            have := lt_of_bit hc hs1 (fun i hi => by
              by_cases him : i < m
              · have := hq (m - 1 - i) (by omega)
                rw [show m - 1 - (m - 1 - i) = i by omega] at this
                exact this.symm
              · rw [Nat.testBit_lt_two_pow (Nat.lt_of_lt_of_le hs (Nat.pow_le_pow_right (by omega) (by omega))), Nat.testBit_lt_two_pow (Nat.lt_of_lt_of_le ht (Nat.pow_le_pow_right (by omega) (by omega)))])
            omega
        refine Ev.step (fun k => ?_) (Ev.ret (g := fun k => cohousinglaw36_less.j1 k (stBits m s) (stBits m t) (j : Nat) true) (fun k => ?_))
        · simp only [cohousinglaw36_less.l0]
          rw [if_pos (by omega), decide_eq_true (by omega)]
        · simp only [cohousinglaw36_less.j1, if_true]
          rw [if_pos (by omega), if_pos (by omega), if_pos (by omega), if_pos (show (rdOf false (stBits m s) (j : Int) != rdOf false (stBits m t) (j : Int)) = true from by
            show ((stBits m s).getD j false != (stBits m t).getD j false) = true
            rw [g1, g2, bne_iff_ne]; exact he)]
          show some ((stBits m t).getD j false) = some true
          rw [g2, ht1]
  exact h m 0 (by omega) (by omega) (fun q hq => absurd hq (by omega))

theorem holds_loop (out : List Bool) (seen : List S48) (day : Int) (hs : ∀ s ∈ seen, 0 ≤ s.f0 ∧ s.f0 < (out.length : Int)) (hl : seen.length ≤ 1000) : Ev (fun k => cohousinglaw36_holds.l0 k day out seen (seen.length : Int) 0) (agreesB out seen day) := by
  have h : Ev (fun k => cohousinglaw36_holds.l0 k day out seen (seen.length : Int) ((0 : Nat) : Int)) (if (List.range seen.length).all (fun i => !(decide ((rd_T48 seen i).f2 ≤ day) && (out.getD (rd_T48 seen i).f0.toNat false != (rd_T48 seen i).f1))) then true else false) := by
    refine loop_all0 (g := fun k i => cohousinglaw36_holds.l0 k day out seen (seen.length : Int) (i : Nat)) (p := fun i => !(decide ((rd_T48 seen i).f2 ≤ day) && (out.getD (rd_T48 seen i).f0.toNat false != (rd_T48 seen i).f1))) ?_ ?_ ?_
    · intro i hi hp
      have c1 : (i : Int) < (seen.length : Int) := by omega
      have c2 : 0 ≤ (i : Int) := by omega
      have hm : rd_T48 seen i ∈ seen := by simp [rd_T48, List.getD_eq_getElem?_getD, List.getElem?_eq_getElem hi]
      obtain ⟨q1, q2⟩ := hs _ hm
      simp only [Bool.not_eq_false', Bool.and_eq_true, decide_eq_true_eq] at hp
      refine Ev.ret fun k => ?_
      simp only [cohousinglaw36_holds.l0, if_pos c1, if_pos c2, if_pos hp.1, if_pos q1, if_pos q2]
      rw [if_pos (show (rdOf false out (rd_T48 seen i).f0 != (rd_T48 seen i).f1) = true from hp.2)]
    · intro i hi hp r hr
      have c1 : (i : Int) < (seen.length : Int) := by omega
      have c2 : 0 ≤ (i : Int) := by omega
      have hm : rd_T48 seen i ∈ seen := by simp [rd_T48, List.getD_eq_getElem?_getD, List.getElem?_eq_getElem hi]
      obtain ⟨q1, q2⟩ := hs _ hm
      refine Ev.step (fun k => ?_) hr
      simp only [cohousinglaw36_holds.l0, if_pos c1, if_pos c2, if_pos q1, if_pos q2]
      rw [wrapN i (by omega)]
      by_cases hd : (rd_T48 seen i).f2 ≤ day
      · rw [if_pos hd]
        simp only [decide_eq_true hd, Bool.true_and, Bool.not_eq_true'] at hp
        rw [if_neg (by rw [show (rdOf false out (rd_T48 seen i).f0 != (rd_T48 seen i).f1) = false from hp]; simp)]
      · rw [if_neg hd]
    · refine Ev.ret fun k => ?_
      simp only [cohousinglaw36_holds.l0]
      rw [if_neg (by omega)]
  have e : (if (List.range seen.length).all (fun i => !(decide ((rd_T48 seen i).f2 ≤ day) && (out.getD (rd_T48 seen i).f0.toNat false != (rd_T48 seen i).f1))) then true else false) = agreesB out seen day := by
    have h2 := all_range z48 seen (fun s => !(decide (s.f2 ≤ day) && (out.getD s.f0.toNat false != s.f1)))
    unfold agreesB
    rw [← h2]
    have h3 : (fun i : Nat => !(decide ((rd_T48 seen i).f2 ≤ day) && (out.getD (rd_T48 seen i).f0.toNat false != (rd_T48 seen i).f1))) = (fun i : Nat => !(decide ((seen.getD i z48).f2 ≤ day) && (out.getD (seen.getD i z48).f0.toNat false != (seen.getD i z48).f1))) := rfl
    rw [h3]
    cases (List.range seen.length).all (fun i => !(decide ((seen.getD i z48).f2 ≤ day) && (out.getD (seen.getD i z48).f0.toNat false != (seen.getD i z48).f1))) <;> rfl
  rw [← e]
  exact h
theorem holds_ev (l : List S44) (free : List Bool) (seen : List S48) (day : Int) (hv : validB l = true) (ho : obsB seen l.length = true) (hf : free.length = (freeOf l).length) : Ev (fun k => cohousinglaw36_holds.f k l free seen day) (agreesB (runB l free) seen day) := by
  have hrl := runB_len l free
  have h := holds_loop (runB l free) seen day (by rw [hrl]; exact obs_bound ho) (by have := obs_len ho; omega)
  have hr : runV l free = (runB l free, 0) := by
    unfold runV
    rw [hv, decide_eq_true hf]
    rfl
  have j0 : Ev (fun k => cohousinglaw36_holds.j0 k seen day (runB l free) false) (agreesB (runB l free) seen day) := by
    refine Ev.step (fun k => ?_) h
    simp only [cohousinglaw36_holds.j0, Bool.false_eq_true, if_false]
  refine Ev.congr (fun k => ?_) j0
  simp only [cohousinglaw36_holds.f, cause_Run.f, Option.bind_some, hr, if_true, hrl, bne_self_eq_false]

theorem states_loop (l : List S44) (free : List Bool) (seen : List S48) (day : Int) (hv : validB l = true) (ho : obsB seen l.length = true) (hf : free.length = (freeOf l).length) :
    ∀ d i, (statesB l seen day).length - i = d → i ≤ (statesB l seen day).length → Ev (fun k => cohousinglaw36_CauseStates.l0 k l free seen day true (statesB l seen day) (decide (free ∈ (statesB l seen day).take i)) (statesB l seen day) ((statesB l seen day).length : Int) (i : Nat)) true := by
  have hlen := valid_len hv
  have hb := valid_back hv
  have hs := obs_bound ho
  have hXle := agS_le l seen day hlen
  have hm := mem_states l seen day free hv ho hf
  have hh := holds_ev l free seen day hv ho hf
  have hfl : (freeOf l).length ≤ 12 := Nat.le_trans (freeAt_length l 0) hlen
  have hsort := agS_sorted l seen day
  have hmem : ∀ s ∈ agS l seen day, s < 2 ^ (freeOf l).length ∧ agreesB (runB l (stBits (freeOf l).length s)) seen day = true := by
    intro s hs'
    rw [agS_mem, agB_eq l hb seen day hs] at hs'
    exact hs'
  unfold statesB at *
  generalize agS l seen day = X at *
  have hXl : (X.map (stBits (freeOf l).length)).length = X.length := by simp
  generalize hS : X.map (stBits (freeOf l).length) = S at *
  intro d
  induction d with
  | zero =>
    intro i hd hi
    obtain rfl : i = S.length := by omega
    rw [List.take_length, hm]
    have e := Ev.bind (f := fun k t305 => (some (agreesB (runB l free) seen day == t305))) (r := true) hh (Ev.ret fun k => by rw [beq_self_eq_true])
    refine Ev.step (fun k => ?_) e
    simp only [cohousinglaw36_CauseStates.l0]
    rw [if_neg (by omega)]
    simp only [if_true]
  | succ d ih =>
    intro i hd hi
    have h2 := ih (i + 1) (by omega) (by omega)
    have hiX : i < X.length := by omega
    have hrd : rd_L3 S (i : Int) = stBits (freeOf l).length (X.getD i 0) := by rw [← hS]; exact rd_L3_map X _ i hiX
    have hxm : X.getD i 0 ∈ X := by simp [List.getD_eq_getElem?_getD, List.getElem?_eq_getElem hiX]
    obtain ⟨hlt, hag⟩ := hmem _ hxm
    have htk : S.take (i + 1) = S.take i ++ [stBits (freeOf l).length (X.getD i 0)] := by
      rw [List.take_succ_eq_append_getElem (by omega)]
      congr 1
      subst hS
      simp [List.getD_eq_getElem?_getD, List.getElem?_eq_getElem hiX]
    rw [htk, mem_snoc] at h2
    generalize hx : X.getD i 0 = x at *
    have hbl := stBits_len (freeOf l).length x
    have hho := holds_ev l (stBits (freeOf l).length x) seen day hv ho hbl
    rw [hag] at hho
    have hsame := same_bools_ev (stBits (freeOf l).length x) free (by omega)
    have after : Ev (fun k => (cohousinglaw36_holds.f k l (stBits (freeOf l).length x) seen day).bind fun t309 => (if t309 = true then (if decide (free ∈ S.take i) = true then (cohousinglaw36_CauseStates.l0 k l free seen day true S true S (S.length : Int) (wrap64 ((i : Int) + 1))) else ((cohousingref36_SameBools.f k (stBits (freeOf l).length x) free).bind fun t310 => (cohousinglaw36_CauseStates.l0 k l free seen day true S t310 S (S.length : Int) (wrap64 ((i : Int) + 1))))) else (some false))) true := by
      refine Ev.bind (f := fun k t309 => (if t309 = true then (if decide (free ∈ S.take i) = true then (cohousinglaw36_CauseStates.l0 k l free seen day true S true S (S.length : Int) (wrap64 ((i : Int) + 1))) else ((cohousingref36_SameBools.f k (stBits (freeOf l).length x) free).bind fun t310 => (cohousinglaw36_CauseStates.l0 k l free seen day true S t310 S (S.length : Int) (wrap64 ((i : Int) + 1))))) else (some false))) hho ?_
      rw [wrapN i (by omega)]
      cases hd : decide (free ∈ S.take i) with
      | true =>
        rw [hd, Bool.true_or] at h2
        simpa only [if_true] using h2
      | false =>
        rw [hd, Bool.false_or] at h2
        have e := Ev.bind (f := fun k t310 => (cohousinglaw36_CauseStates.l0 k l free seen day true S t310 S (S.length : Int) ((i + 1 : Nat) : Int))) hsame h2
        simpa only [if_true, Bool.false_eq_true, if_false] using e
    by_cases hi0 : i = 0
    · subst hi0
      refine Ev.step (fun k => ?_) after
      simp only [cohousinglaw36_CauseStates.l0]
      rw [if_pos (by omega), if_pos (by omega), if_pos (by omega), hrd, if_pos (by omega), if_neg (by omega)]
    · have hi1 : i - 1 < X.length := by omega
      have hrd1 : rd_L3 S (((i - 1 : Nat)) : Int) = stBits (freeOf l).length (X.getD (i - 1) 0) := by rw [← hS]; exact rd_L3_map X _ (i - 1) hi1
      have hxm1 : X.getD (i - 1) 0 ∈ X := by simp [List.getD_eq_getElem?_getD, List.getElem?_eq_getElem hi1]
      have hlt1 := (hmem _ hxm1).1
      have hord : X.getD (i - 1) 0 < x := by
        have := List.pairwise_iff_getElem.1 hsort (i - 1) i hi1 hiX (by omega)
        rw [← hx]
        simpa [List.getD_eq_getElem?_getD, List.getElem?_eq_getElem hiX, List.getElem?_eq_getElem hi1] using this
      have hle := less_ev (freeOf l).length _ x hfl hlt1 hlt hord
      have e := Ev.bind (f := fun k t308 => (if t308 = true then ((cohousinglaw36_holds.f k l (stBits (freeOf l).length x) seen day).bind fun t309 => (if t309 = true then (if decide (free ∈ S.take i) = true then (cohousinglaw36_CauseStates.l0 k l free seen day true S true S (S.length : Int) (wrap64 ((i : Int) + 1))) else ((cohousingref36_SameBools.f k (stBits (freeOf l).length x) free).bind fun t310 => (cohousinglaw36_CauseStates.l0 k l free seen day true S t310 S (S.length : Int) (wrap64 ((i : Int) + 1))))) else (some false))) else (some false))) (r := true) hle (by simpa only [if_true] using after)
      have hw1 : wrap64 ((i : Int) - 1) = ((i - 1 : Nat) : Int) := by unfold wrap64; omega
      refine Ev.step (fun k => ?_) e
      simp only [cohousinglaw36_CauseStates.l0]
      rw [if_pos (by omega), if_pos (by omega), if_pos (by omega), hrd, if_pos (by omega), if_pos (by omega), hw1, if_pos (by omega), if_pos (by omega), hrd1]
theorem statesLaw_ev (l : List S44) (free : List Bool) (seen : List S48) (day : Int) (hw : ∀ v ∈ l, v.f1.length ≤ 9223372036854775807) : Ev (fun k => cohousinglaw36_CauseStates.f k l free seen day) true := by
  have j0t : Ev (fun k => cohousinglaw36_CauseStates.j0 k l free seen day true true) true := Ev.ret fun k => by simp only [cohousinglaw36_CauseStates.j0, if_true]
  have hu := usable_ev l seen day hw
  refine Ev.bind (f := fun k t297 => (if t297 = true then ((cohousingref36_Free.f k l).bind fun t298 => (cohousinglaw36_CauseStates.j0 k l free seen day true ((free.length : Int) != (t298.length : Int)))) else (cohousinglaw36_CauseStates.j0 k l free seen day true true))) hu ?_
  cases hb : usableB l seen day with
  | false => simpa only [Bool.false_eq_true, if_false] using j0t
  | true =>
    simp only [if_true]
    obtain ⟨hv, ho, hd, _⟩ := usable_valid hb
    have hlen := valid_len hv
    refine Ev.bind (f := fun k (t298 : List Int) => (cohousinglaw36_CauseStates.j0 k l free seen day true ((free.length : Int) != (t298.length : Int)))) (free_ev l (by omega)) ?_
    by_cases hf : free.length = (freeOf l).length
    · rw [show ((free.length : Int) != ((freeOf l).length : Int)) = false from by rw [hf]; simp]
      have h0 := states_loop l free seen day hv ho hf (statesB l seen day).length 0 (by omega) (by omega)
      rw [List.take_zero] at h0
      have hst : statesV l seen day = (statesB l seen day, 0) := by
        unfold statesV
        rw [seenB_obs, hv, ho, hd]
        rfl
      refine Ev.step (fun k => ?_) h0
      simp only [cohousinglaw36_CauseStates.j0, Bool.false_eq_true, if_false, cause_States.f, Option.bind_some, hst, if_true]
      simp
    · rw [show ((free.length : Int) != ((freeOf l).length : Int)) = true from by rw [bne_iff_ne]; omega]
      exact j0t
end Go.Proofs.Ytjdhnhfglpogmaa.P
