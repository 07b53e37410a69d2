/- The reference functions of layer 36: has, Without, Blame. -/
import Derived.Test.YtjdhnhfglpogmaaPref2
set_option linter.unusedSimpArgs false
set_option linter.unusedVariables false
namespace Go.Proofs.Ytjdhnhfglpogmaa.P
open Go.RowKit Go.Proofs.YtjdhnhfglpogmaaW.PrintWords Go.Proofs.YtjdhnhfglpogmaaW.PrintLast Go.Proofs.YtjdhnhfglpogmaaW.PrintMore

def hasB (l : List S44) (p : Int) : Bool := !((List.range l.length).all (fun i => !((rd_T44 l i).f0 == p)))
theorem has_ev (l : List S44) (p : Int) (hl : l.length ≤ 1000) : Ev (fun k => cohousingref36_has.f k l p) (hasB l p) := by
  have h : Ev (fun k => cohousingref36_has.l0 k l p ((0 : Nat) : Int)) (if (List.range l.length).all (fun i => !((rd_T44 l i).f0 == p)) then false else true) := by
    refine loop_all0 (g := fun k i => cohousingref36_has.l0 k l p (i : Nat)) (p := fun i => !((rd_T44 l i).f0 == p)) ?_ ?_ ?_
    · intro i hi hp
      have c1 : (i : Int) < (l.length : Int) := by omega
      have c2 : 0 ≤ (i : Int) := by omega
      simp only [Bool.not_eq_false', beq_iff_eq] at hp
      refine Ev.ret fun k => ?_
      simp only [cohousingref36_has.l0, if_pos c1, if_pos c2, if_pos hp]
    · intro i hi hp r hr
      have c1 : (i : Int) < (l.length : Int) := by omega
      have c2 : 0 ≤ (i : Int) := by omega
      simp only [Bool.not_eq_true', beq_eq_false_iff_ne] at hp
      refine Ev.step (fun k => ?_) hr
      simp only [cohousingref36_has.l0, if_pos c1, if_pos c2, if_neg hp]
      rw [wrapN i (by omega)]
    · refine Ev.ret fun k => ?_
      simp only [cohousingref36_has.l0]
      rw [if_neg (by omega)]
  have e : (if (List.range l.length).all (fun i => !((rd_T44 l i).f0 == p)) then false else true) = hasB l p := by
    unfold hasB
    cases (List.range l.length).all (fun i => !((rd_T44 l i).f0 == p)) <;> rfl
  rw [← e]
  exact h
theorem hasB_iff (l : List S44) (p : Int) : hasB l p = true ↔ ∃ i, i < l.length ∧ (rd_T44 l i).f0 = p := by
  unfold hasB
  rw [Bool.not_eq_true', List.all_eq_false]
  constructor
  · rintro ⟨i, h1, h2⟩
    exact ⟨i, by simpa using h1, by simpa using h2⟩
  · rintro ⟨i, h1, h2⟩
    exact ⟨i, by simpa using h1, by simp [h2]⟩
theorem maskN_bit (l : List S44) (fr : List Int) (p : Int) (j : Nat) (hj : j < fr.length) : ∀ k, k ≤ fr.length → (maskN l fr p k).testBit (fr.length - 1 - j) = (decide (j < k) && decide ((rd_T44 l (rd fr j)).f0 = p))
  | 0, _ => by simp [maskN]
  | k + 1, hk => by
    have ih := maskN_bit l fr p j hj k (by omega)
    simp only [maskN, Nat.testBit_or, ih]
    by_cases hjk : j = k
    · subst hjk
      by_cases h : (rd_T44 l (rd fr j)).f0 = p
      · simp [h, Nat.testBit_two_pow]
      · simp [h]
    · have : (if (rd_T44 l (rd fr k)).f0 = p then 2 ^ (fr.length - 1 - k) else 0).testBit (fr.length - 1 - j) = false := by
        split
        · rw [Nat.testBit_two_pow]; simp; omega
        · simp
      rw [this, Bool.or_false]
      by_cases h : j < k
      · rw [decide_eq_true h, decide_eq_true (show j < k + 1 by omega)]
      · rw [decide_eq_false h, decide_eq_false (show ¬ j < k + 1 by omega)]
theorem maskN_zero (l : List S44) (fr : List Int) (p : Int) : ∀ k, k ≤ fr.length → (∀ j, j < k → (rd_T44 l (rd fr j)).f0 ≠ p) → maskN l fr p k = 0
  | 0, _, _ => rfl
  | k + 1, hk, h => by
    simp only [maskN]
    rw [maskN_zero l fr p k (by omega) (fun j hj => h j (by omega)), if_neg (h k (by omega))]
    rfl
theorem mask_has (l : List S44) (hv : validB l = true) (p : Int) (hp : 1 ≤ p) : decide (maskOf l p ≠ 0) = hasB l p := by
  rw [Bool.eq_iff_iff, decide_eq_true_eq, hasB_iff]
  unfold maskOf
  constructor
  · intro h
    by_cases hc : ∀ j, j < (freeOf l).length → (rd_T44 l (rd (freeOf l) j)).f0 ≠ p
    · exact absurd (maskN_zero l _ p _ (Nat.le_refl _) hc) h
    · simp only [Classical.not_forall] at hc
      obtain ⟨j, hj, hq⟩ := hc
      have hb := freeOf_bound l _ (rd_mem hj)
      refine ⟨(rd (freeOf l) j).toNat, by omega, ?_⟩
      rw [Int.toNat_of_nonneg hb.1]
      exact Classical.not_not.1 hq
  · rintro ⟨i, hi, he⟩ h
    have hvi := valid_at hv hi
    unfold varB at hvi
    by_cases h0 : (rd_T44 l i).f1.length = 0
    · obtain ⟨f1, f2⟩ := free_rd l i hi h0
      have hb := maskN_bit l (freeOf l) p _ f1 (freeOf l).length (Nat.le_refl _)
      rw [h, f2, decide_eq_true f1, decide_eq_true he] at hb
      simp at hb
    · rw [if_neg h0] at hvi
      simp only [Bool.and_eq_true, decide_eq_true_eq] at hvi
      omega

/-- A state without a party's faults. -/
def withoutB (l : List S44) (s : List Bool) (p : Int) : List Bool := (List.range s.length).map (fun i => s.getD i false && ((rd_T44 l (rd (freeOf l) (i : Nat))).f0 != p))
theorem without_ev (l : List S44) (s : List Bool) (p : Int) (hl : l.length ≤ 12) (hs : s.length = (freeOf l).length) : Ev (fun k => cohousingref36_Without.f k l s p) (withoutB l s p) := by
  have hfl : (freeOf l).length ≤ 12 := Nat.le_trans (freeAt_length l 0) hl
  have h : ∀ d i, s.length - i = d → i ≤ s.length → Ev (fun k => cohousingref36_Without.l0 k l s p (freeOf l) ((withoutB l s p).take i) (i : Nat)) (withoutB l s p) := by
    have hlen : (withoutB l s p).length = s.length := by simp [withoutB]
    have hget : ∀ i, i < s.length → (withoutB l s p).take (i + 1) = (withoutB l s p).take i ++ [s.getD i false && ((rd_T44 l (rd (freeOf l) (i : Nat))).f0 != p)] := by
      intro i hi
      rw [List.take_succ_eq_append_getElem (by rw [hlen]; exact hi)]
      simp [withoutB]
    intro d
    induction d with
    | zero =>
      intro i hd hi
      obtain rfl : i = s.length := by omega
      refine Ev.ret fun k => ?_
      simp only [cohousingref36_Without.l0]
      rw [if_neg (by omega), List.take_of_length_le (by omega)]
    | succ d ih =>
      intro i hd hi
      have h2 := ih (i + 1) (by omega) (by omega)
      rw [hget i (by omega)] at h2
      have hb := freeOf_bound l _ (rd_mem (show i < (freeOf l).length by omega))
      have htl : ((withoutB l s p).take i).length ≤ 12 := Nat.le_trans (List.length_take_le _ _) (by omega)
      refine Ev.step (fun k => ?_) h2
      simp only [cohousingref36_Without.l0]
      rw [if_pos (by omega), if_pos (by omega), wrapN i (by omega)]
      cases hc : s.getD i false with
      | true =>
        rw [if_pos (show rdOf false s (i : Int) = true from hc), if_pos (by omega), if_pos hb.1, if_pos hb.2, if_pos (by omega)]
        rfl
      | false =>
        rw [if_neg (show ¬ rdOf false s (i : Int) = true from by show ¬ s.getD i false = true; rw [hc]; decide), if_pos (by omega)]
        rfl
  refine Ev.bind (f := fun k t186 => (cohousingref36_Without.l0 k l s p t186 ([] : List Bool) 0)) (free_ev l (by omega)) ?_
  have h0 := h s.length 0 (by omega) (by omega)
  rw [List.take_zero] at h0
  exact h0
theorem without_bits (l : List S44) (p : Int) (s : Nat) : withoutB l (stBits (freeOf l).length s) p = stBits (freeOf l).length (clearN s (maskOf l p)) := by
  unfold withoutB
  rw [stBits_len]
  unfold stBits
  refine List.map_congr_left (fun i hi => ?_)
  have hlt : i < (freeOf l).length := by simpa using hi
  have h1 := stBits_get (freeOf l).length s i hlt
  unfold stBits at h1
  rw [h1, clearN_bit]
  unfold maskOf
  rw [maskN_bit l (freeOf l) p i hlt _ (Nat.le_refl _), decide_eq_true hlt, Bool.true_and]
  by_cases h : (rd_T44 l (rd (freeOf l) (i : Nat))).f0 = p
  · simp [h]
  · simp [h]
theorem rd_L3_map (X : List Nat) (m j : Nat) (hj : j < X.length) : rd_L3 (X.map (stBits m)) (j : Int) = stBits m (X.getD j 0) := by
  simp [rd_L3, List.getD_eq_getElem?_getD, List.getElem?_eq_getElem hj]

theorem partyL_snoc (b : Int → Bool) (k : Nat) (c : Bool) (h : b ((k : Int) + 1) = c) : partyL b (k + 1) = if c then partyL b k ++ [(k : Int) + 1] else partyL b k := by
  rw [partyL_succ, h]
  cases c <;> simp
theorem cnt_eq (hb : Bool) (n N X : Nat) (hX : ¬ X = 0) (h1 : hb = true → n = N) (h2 : hb = false → n = 0) : (hb && decide (N = X)) = decide (n = X) ∧ (hb && decide (0 < N)) = decide (0 < n) := by
  cases hb with
  | true => rw [h1 rfl]; exact ⟨Bool.true_and _, Bool.true_and _⟩
  | false =>
    rw [h2 rfl]
    exact ⟨by rw [Bool.false_and, decide_eq_false (by omega)], by rw [Bool.false_and, decide_eq_false (by omega)]⟩
theorem blame_after (l : List S44) (S : List (List Bool)) (d : Int) (su ma : List Int) (p p' : Int) (n : Nat) (j : Int) {N : Nat} (R : List Int × List Int × Int) (hp : 0 ≤ p) (hSl : S.length = N) (hX : ¬ N = 0) (hwr : wrap64 (p + 1) = p') (hs1 : su.length < 17592186044416) (hs2 : ma.length < 17592186044416)
    (h : Ev (fun k => cohousingref36_Blame.l0 k l d S (if decide (n = N) = true then su ++ [p] else su) (if decide (0 < n) = true then ma ++ [p] else ma) p') R) :
    Ev (fun k => cohousingref36_Blame.j3 k l d S su ma p (n : Nat) j false) R := by
  refine Ev.step (fun k => ?_) h
  simp only [cohousingref36_Blame.j3, Bool.false_eq_true, if_false]
  rw [hSl, hwr]
  by_cases g1 : n = N
  · rw [if_pos (show (n : Int) = (N : Int) by omega), if_pos hs1, decide_eq_true g1]
    simp only [Option.bind_some, if_true]
    rw [if_pos (show (n : Int) > 0 by omega), if_pos hs2, decide_eq_true (show 0 < n by omega)]
    simp only [if_true]
  · rw [if_neg (show ¬ (n : Int) = (N : Int) by omega), decide_eq_false g1]
    by_cases g2 : 0 < n
    · rw [if_pos (show (n : Int) > 0 by omega), if_pos hs2, decide_eq_true g2]
      simp only [Bool.false_eq_true, if_false, if_true]
    · rw [if_neg (show ¬ (n : Int) > 0 by omega), decide_eq_false g2]
      simp only [Bool.false_eq_true, if_false]
set_option maxHeartbeats 1000000 in
theorem Blame_ev (l : List S44) (seen : List S48) (day defect : Int) (hw : ∀ v ∈ l, v.f1.length ≤ 9223372036854775807) : Ev (fun k => cohousingref36_Blame.f k l seen day defect) (blameV l seen day defect) := by
  have hst := States_ev l seen day hw
  have hbody : ∀ (k : Nat) (bt : List (List Bool) × Int), (if bt.2 = 0 then (if defect < 0 then (cohousingref36_Blame.j0 k l defect bt.1 true) else (cohousingref36_Blame.j0 k l defect bt.1 (decide (defect ≥ (l.length : Int))))) else (some (([] : List Int), ([] : List Int), bt.2))) = (if bt.2 = 0 then (if defect < 0 then (cohousingref36_Blame.j0 k l defect bt.1 true) else (cohousingref36_Blame.j0 k l defect bt.1 (decide (defect ≥ (l.length : Int))))) else (some (([] : List Int), ([] : List Int), bt.2))) := fun _ _ => rfl
  refine Ev.bind (f := fun k (bt198 : List (List Bool) × Int) => (if bt198.2 = 0 then (if defect < 0 then (cohousingref36_Blame.j0 k l defect bt198.1 true) else (cohousingref36_Blame.j0 k l defect bt198.1 (decide (defect ≥ (l.length : Int))))) else (some (([] : List Int), ([] : List Int), bt198.2)))) hst ?_
  have jt : ∀ S, Ev (fun k => cohousingref36_Blame.j0 k l defect S true) ([], [], 1) := fun S => Ev.ret fun k => by simp only [cohousingref36_Blame.j0, if_true]
  unfold statesV blameV
  by_cases hok : (validB l && seenB l.length seen day) = true
  · rw [hok]
    simp only [if_true, Bool.true_and]
    by_cases hd0 : defect < 0
    · rw [decide_eq_false (show ¬ 0 ≤ defect by omega), Bool.false_and]
      simp only [if_pos hd0, Bool.false_eq_true, if_false]
      exact jt _
    · by_cases hd1 : defect < (l.length : Int)
      · rw [decide_eq_true (show 0 ≤ defect by omega), decide_eq_true hd1, Bool.true_and, if_pos rfl, decide_eq_false (show ¬ defect ≥ (l.length : Int) by omega)]
        simp only [if_neg hd0]
        obtain ⟨d, rfl⟩ := Int.eq_ofNat_of_zero_le (show 0 ≤ defect by omega)
        simp only [Bool.and_eq_true] at hok
        obtain ⟨hval, hsb⟩ := hok
        have hlen := valid_len hval
        have hback := valid_back hval
        have hvok := valid_ok hval
        have hXle := agS_le l seen day hlen
        have hSm : statesB l seen day = (agS l seen day).map (stBits (freeOf l).length) := rfl
        rw [hSm, Int.toNat_natCast]
        generalize agS l seen day = X at *
        have hSl : (X.map (stBits (freeOf l).length)).length = X.length := by simp
        by_cases hX0 : X.length = 0
        · rw [if_pos hX0]
          refine Ev.ret fun k => ?_
          simp only [cohousingref36_Blame.j0, Bool.false_eq_true, if_false]
          rw [if_pos (by omega)]
        · rw [if_neg hX0]
          have hloop : ∀ e q, 64 - q = e → q ≤ 64 → Ev (fun k => cohousingref36_Blame.l0 k l d (X.map (stBits (freeOf l).length)) (partyL (sureB l X d) q) (partyL (maybeB l X d) q) ((q : Int) + 1)) (partyL (sureB l X d) 64, partyL (maybeB l X d) 64, 0) := by
            intro e
            induction e with
            | zero =>
              intro q he hq
              obtain rfl : q = 64 := by omega
              refine Ev.ret fun k => ?_
              simp only [cohousingref36_Blame.l0]
              rw [if_neg (by omega)]
            | succ e ih =>
              intro q he hq
              have hnext := ih (q + 1) (by omega) (by omega)
              have hs1 := partyL_len (sureB l X d) q
              have hs2 := partyL_len (maybeB l X d) q
              have hpp : (1 : Int) ≤ (q : Int) + 1 := by omega
              have hmh := mask_has l hval ((q : Int) + 1) hpp
              have hsu : sureB l X d ((q : Int) + 1) = (decide (maskOf l ((q : Int) + 1) ≠ 0) && decide (cntB l X d ((q : Int) + 1) = X.length)) := rfl
              have hma : maybeB l X d ((q : Int) + 1) = (decide (maskOf l ((q : Int) + 1) ≠ 0) && decide (0 < cntB l X d ((q : Int) + 1))) := rfl
              rw [hmh] at hsu hma
              have hcnt : cntB l X d ((q : Int) + 1) ≤ X.length := List.length_filter_le _ _
              rw [partyL_snoc _ _ _ hsu, partyL_snoc _ _ _ hma] at hnext
              clear hsu hma hmh
              generalize partyL (sureB l X d) q = su at hnext hs1 ⊢
              generalize partyL (maybeB l X d) q = ma at hnext hs2 ⊢
              obtain ⟨N, hN⟩ : ∃ N, N = cntB l X d ((q : Int) + 1) := ⟨_, rfl⟩
              rw [← hN] at hnext hcnt
              have hNd : ∀ _ : Unit, cntB l X d ((q : Int) + 1) = (X.filter (blB l d (maskOf l ((q : Int) + 1)))).length := fun _ => rfl
              rw [← hN] at hNd
              clear hN
              have hwr : ∀ _ : Unit, wrap64 ((q : Int) + 1 + 1) = (((q + 1 : Nat) : Int) + 1) := by intro _; unfold wrap64; omega
              -- behind the counting
              have after : ∀ (n : Nat) (j : Int), n ≤ X.length → (hasB l ((q : Int) + 1) = true → n = N) → (hasB l ((q : Int) + 1) = false → n = 0) →
                  Ev (fun k => cohousingref36_Blame.j3 k l d (X.map (stBits (freeOf l).length)) su ma ((q : Int) + 1) (n : Nat) j false) (partyL (sureB l X d) 64, partyL (maybeB l X d) 64, 0) := by
                intro n j hn h1 h2
                obtain ⟨c1, c2⟩ := cnt_eq _ n _ _ hX0 h1 h2
                rw [c1, c2] at hnext
                exact blame_after l _ d _ _ _ _ n j _ (by omega) hSl hX0 (hwr ()) (by omega) (by omega) hnext
              have hhas := has_ev l ((q : Int) + 1) (by omega)
              have hl1 : Ev (fun k => cohousingref36_Blame.l1 k l d (X.map (stBits (freeOf l).length)) su ma ((q : Int) + 1) ((0 : Nat) : Int) ((0 : Nat) : Int)) (partyL (sureB l X d) 64, partyL (maybeB l X d) 64, 0) := by
                cases hb : hasB l ((q : Int) + 1) with
                | false =>
                  rw [hb] at hhas
                  have ha := after 0 0 (by omega) (fun h => by rw [hb] at h; cases h) (fun _ => rfl)
                  refine Ev.step (fun k => ?_) (Ev.bind (f := fun k t202 => cohousingref36_Blame.j3 k l d (X.map (stBits (freeOf l).length)) su ma ((q : Int) + 1) ((0 : Nat) : Int) ((0 : Nat) : Int) t202) hhas ha)
                  simp only [cohousingref36_Blame.l1]
                  rw [if_pos (by omega)]
                | true =>
                  rw [hb] at hhas
                  have hin : ∀ e j, X.length - j = e → j ≤ X.length → Ev (fun k => cohousingref36_Blame.l1 k l d (X.map (stBits (freeOf l).length)) su ma ((q : Int) + 1) (((X.take j).filter (blB l d (maskOf l ((q : Int) + 1)))).length : Nat) (j : Nat)) (partyL (sureB l X d) 64, partyL (maybeB l X d) 64, 0) := by
                    intro e
                    induction e with
                    | zero =>
                      intro j he hj
                      obtain rfl : j = X.length := by omega
                      rw [List.take_length]
                      have ha := after N (X.length : Nat) hcnt (fun _ => rfl) (fun h => by rw [hb] at h; cases h)
                      refine Ev.step (fun k => ?_) ha
                      simp only [cohousingref36_Blame.l1]
                      rw [if_neg (by omega), hNd ()]
                    | succ e ihe =>
                      intro j he hj
                      have h3 := ihe (j + 1) (by omega) (by omega)
                      have hcl : ((X.take j).filter (blB l d (maskOf l ((q : Int) + 1)))).length ≤ j := Nat.le_trans (List.length_filter_le _ _) (List.length_take_le _ _)
                      have htk : ((X.take (j + 1)).filter (blB l d (maskOf l ((q : Int) + 1)))).length = ((X.take j).filter (blB l d (maskOf l ((q : Int) + 1)))).length + if blB l d (maskOf l ((q : Int) + 1)) (X.getD j 0) then 1 else 0 := by
                        rw [List.take_succ_eq_append_getElem (show j < X.length by omega), List.filter_append, List.length_append]
                        simp only [List.filter_cons, List.filter_nil, List.getD_eq_getElem?_getD, List.getElem?_eq_getElem (show j < X.length by omega), Option.getD_some]
                        split <;> rfl
                      have hbl : blB l d (maskOf l ((q : Int) + 1)) (X.getD j 0) = ((runB l (stBits (freeOf l).length (X.getD j 0))).getD d false && !((runB l (stBits (freeOf l).length (clearN (X.getD j 0) (maskOf l ((q : Int) + 1))))).getD d false)) := by
                        unfold blB
                        rw [val_bits l hback _ d (by omega), val_bits l hback _ d (by omega)]
                      rw [htk, hbl] at h3
                      have hr1 := run_ev l hback hvok hlen (stBits (freeOf l).length (X.getD j 0)) (stBits_len _ _)
                      have hwo := without_ev l (stBits (freeOf l).length (X.getD j 0)) ((q : Int) + 1) hlen (stBits_len _ _)
                      rw [without_bits] at hwo
                      have hr2 := run_ev l hback hvok hlen (stBits (freeOf l).length (clearN (X.getD j 0) (maskOf l ((q : Int) + 1)))) (stBits_len _ _)
                      have hn1 := runB_len l (stBits (freeOf l).length (X.getD j 0))
                      have hn2 := runB_len l (stBits (freeOf l).length (clearN (X.getD j 0) (maskOf l ((q : Int) + 1))))
                      generalize ((X.take j).filter (blB l d (maskOf l ((q : Int) + 1)))).length = n at *
                      generalize runB l (stBits (freeOf l).length (X.getD j 0)) = t1 at *
                      generalize runB l (stBits (freeOf l).length (clearN (X.getD j 0) (maskOf l ((q : Int) + 1)))) = t2 at *
                      have hj3 : Ev (fun k => cohousingref36_Blame.j3 k l d (X.map (stBits (freeOf l).length)) su ma ((q : Int) + 1) (n : Nat) (j : Nat) true) (partyL (sureB l X d) 64, partyL (maybeB l X d) 64, 0) := by
                        have hfin : Ev (fun k => (if 0 ≤ (d : Int) then (if (d : Int) < (t1.length : Int) then (if rdOf false t1 (d : Int) = true then (if (d : Int) < (t2.length : Int) then (if rdOf false t2 (d : Int) = true then (cohousingref36_Blame.l1 k l d (X.map (stBits (freeOf l).length)) su ma ((q : Int) + 1) (n : Nat) (wrap64 ((j : Int) + 1))) else (cohousingref36_Blame.l1 k l d (X.map (stBits (freeOf l).length)) su ma ((q : Int) + 1) (wrap64 ((n : Int) + 1)) (wrap64 ((j : Int) + 1)))) else (none)) else (cohousingref36_Blame.l1 k l d (X.map (stBits (freeOf l).length)) su ma ((q : Int) + 1) (n : Nat) (wrap64 ((j : Int) + 1)))) else (none)) else (none))) (partyL (sureB l X d) 64, partyL (maybeB l X d) 64, 0) := by
                          refine Ev.congr (fun k => ?_) h3
                          rw [if_pos (by omega), if_pos (by omega), wrapN j (by omega), wrapN n (by omega)]
                          cases g1 : t1.getD d false with
                          | false =>
                            rw [if_neg (show ¬ rdOf false t1 (d : Int) = true from by show ¬ t1.getD d false = true; rw [g1]; decide)]
                            simp
                          | true =>
                            rw [if_pos (show rdOf false t1 (d : Int) = true from g1), if_pos (by omega)]
                            cases g2 : t2.getD d false with
                            | false =>
                              rw [if_neg (show ¬ rdOf false t2 (d : Int) = true from by show ¬ t2.getD d false = true; rw [g2]; decide)]
                              simp
                            | true =>
                              rw [if_pos (show rdOf false t2 (d : Int) = true from g2)]
                              simp
                        have e1 := Ev.bind (f := fun k t211 => (if 0 ≤ (d : Int) then (if (d : Int) < (t1.length : Int) then (if rdOf false t1 (d : Int) = true then (if (d : Int) < (t211.length : Int) then (if rdOf false t211 (d : Int) = true then (cohousingref36_Blame.l1 k l d (X.map (stBits (freeOf l).length)) su ma ((q : Int) + 1) (n : Nat) (wrap64 ((j : Int) + 1))) else (cohousingref36_Blame.l1 k l d (X.map (stBits (freeOf l).length)) su ma ((q : Int) + 1) (wrap64 ((n : Int) + 1)) (wrap64 ((j : Int) + 1)))) else (none)) else (cohousingref36_Blame.l1 k l d (X.map (stBits (freeOf l).length)) su ma ((q : Int) + 1) (n : Nat) (wrap64 ((j : Int) + 1)))) else (none)) else (none))) hr2 hfin
                        have e2 := Ev.bind (f := fun k t208 => ((cohousingref36_run.f k l t208).bind fun t211 => (if 0 ≤ (d : Int) then (if (d : Int) < (t1.length : Int) then (if rdOf false t1 (d : Int) = true then (if (d : Int) < (t211.length : Int) then (if rdOf false t211 (d : Int) = true then (cohousingref36_Blame.l1 k l d (X.map (stBits (freeOf l).length)) su ma ((q : Int) + 1) (n : Nat) (wrap64 ((j : Int) + 1))) else (cohousingref36_Blame.l1 k l d (X.map (stBits (freeOf l).length)) su ma ((q : Int) + 1) (wrap64 ((n : Int) + 1)) (wrap64 ((j : Int) + 1)))) else (none)) else (cohousingref36_Blame.l1 k l d (X.map (stBits (freeOf l).length)) su ma ((q : Int) + 1) (n : Nat) (wrap64 ((j : Int) + 1)))) else (none)) else (none)))) hwo e1
                        have e3 := Ev.bind (f := fun k (t204 : List Bool) => ((cohousingref36_Without.f k l (stBits (freeOf l).length (X.getD j 0)) ((q : Int) + 1)).bind fun t208 => ((cohousingref36_run.f k l t208).bind fun t211 => (if 0 ≤ (d : Int) then (if (d : Int) < (t204.length : Int) then (if rdOf false t204 (d : Int) = true then (if (d : Int) < (t211.length : Int) then (if rdOf false t211 (d : Int) = true then (cohousingref36_Blame.l1 k l d (X.map (stBits (freeOf l).length)) su ma ((q : Int) + 1) (n : Nat) (wrap64 ((j : Int) + 1))) else (cohousingref36_Blame.l1 k l d (X.map (stBits (freeOf l).length)) su ma ((q : Int) + 1) (wrap64 ((n : Int) + 1)) (wrap64 ((j : Int) + 1)))) else (none)) else (cohousingref36_Blame.l1 k l d (X.map (stBits (freeOf l).length)) su ma ((q : Int) + 1) (n : Nat) (wrap64 ((j : Int) + 1)))) else (none)) else (none))))) hr1 e2
                        refine Ev.step (fun k => ?_) e3
                        simp only [cohousingref36_Blame.j3, if_true]
                        rw [if_pos (by omega), if_pos (by omega), rd_L3_map X _ j (by omega)]
                      refine Ev.step (fun k => ?_) (Ev.bind (f := fun k t202 => cohousingref36_Blame.j3 k l d (X.map (stBits (freeOf l).length)) su ma ((q : Int) + 1) (n : Nat) (j : Nat) t202) hhas hj3)
                      simp only [cohousingref36_Blame.l1]
                      rw [if_pos (by omega)]
                  have h0 := hin X.length 0 (by omega) (by omega)
                  simpa using h0
              refine Ev.step (fun k => ?_) hl1
              simp only [cohousingref36_Blame.l0]
              rw [if_pos (by omega)]
              rfl
          have h0 := hloop 64 0 (by omega) (by omega)
          refine Ev.step (fun k => ?_) h0
          simp only [cohousingref36_Blame.j0, Bool.false_eq_true, if_false]
          rw [if_neg (by omega)]
          rfl
      · rw [decide_eq_false hd1, Bool.and_false, if_neg (show ¬ false = true by decide), decide_eq_true (show defect ≥ (l.length : Int) by omega)]
        simp only [if_neg hd0]
        exact jt _
  · simp only [Bool.not_eq_true] at hok
    rw [hok]
    exact Ev.now _
end Go.Proofs.Ytjdhnhfglpogmaa.P
