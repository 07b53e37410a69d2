/- Layer 36: CauseBlames answers true. -/
import Derived.Test.YtjdhnhfglpogmaaLawU
import Derived.Test.YtjdhnhfglpogmaaPx13
set_option linter.unusedSimpArgs false
set_option linter.unusedVariables false
namespace Go.Proofs.Ytjdhnhfglpogmaa.P
open Go Go.RowKit Go.Proofs.YtjdhnhfglpogmaaW.PrintWords Go.Proofs.YtjdhnhfglpogmaaW.PrintLast Go.Proofs.YtjdhnhfglpogmaaW.PrintMore

theorem blB_bits (l : List S44) (hb : Back l) (d : Nat) (hd : d < l.length) (m s : Nat) : blB l d m s = ((runB l (stBits (freeOf l).length s)).getD d false && !((runB l (stBits (freeOf l).length (clearN s m))).getD d false)) := by
  unfold blB
  rw [val_bits l hb _ d hd, val_bits l hb _ d hd]
theorem blB_zero (l : List S44) (hb : Back l) (d : Nat) (hd : d < l.length) (s : Nat) : blB l d 0 s = false := by
  rw [blB_bits l hb d hd, show clearN s 0 = s from by simp [clearN]]
  cases (runB l (stBits (freeOf l).length s)).getD d false <;> rfl
theorem cnt_zero (l : List S44) (hb : Back l) (X : List Nat) (d : Nat) (hd : d < l.length) (p : Int) (h : maskOf l p = 0) : cntB l X d p = 0 := by
  unfold cntB
  rw [h]
  exact List.length_eq_zero_iff.2 (List.filter_eq_nil_iff.2 (fun s _ => by rw [blB_zero l hb d hd]; decide))
theorem sure_eq (l : List S44) (hb : Back l) (X : List Nat) (d : Nat) (hd : d < l.length) (hX : ¬ X.length = 0) (p : Int) : sureB l X d p = decide (cntB l X d p = X.length) := by
  unfold sureB
  by_cases h : maskOf l p = 0
  · have := cnt_zero l hb X d hd p h
    rw [decide_eq_false (show ¬ maskOf l p ≠ 0 from fun hn => hn h), Bool.false_and, decide_eq_false (by omega)]
  · rw [decide_eq_true h, Bool.true_and]
theorem maybe_eq (l : List S44) (hb : Back l) (X : List Nat) (d : Nat) (hd : d < l.length) (p : Int) : maybeB l X d p = decide (0 < cntB l X d p) := by
  unfold maybeB
  by_cases h : maskOf l p = 0
  · have := cnt_zero l hb X d hd p h
    rw [decide_eq_false (show ¬ maskOf l p ≠ 0 from fun hn => hn h), Bool.false_and, decide_eq_false (by omega)]
  · rw [decide_eq_true h, Bool.true_and]
theorem in_party (b : Int → Bool) (q : Nat) (hq : q < 64) : inB [((q : Int) + 1)] (partyL b 64) = b ((q : Int) + 1) := by
  unfold inB
  simp only [List.all_cons, List.all_nil, Bool.and_true]
  rw [Bool.eq_iff_iff, List.contains_iff_mem]
  unfold partyL
  rw [List.mem_filter, List.mem_map]
  exact ⟨fun h => h.2, fun h => ⟨⟨q, List.mem_range.2 hq, rfl⟩, h⟩⟩
theorem in_nil (p : Int) : inB [p] [] = false := by simp [inB]
theorem blamed_ev (l : List S44) (hv : validB l = true) (s : Nat) (p : Int) (d : Nat) (hd : d < l.length) : Ev (fun k => cohousinglaw36_blamed.f k l (stBits (freeOf l).length s) p (d : Int)) (blB l d (maskOf l p) s) := by
  have hlen := valid_len hv
  have hb := valid_back hv
  have hw := without_ev l (stBits (freeOf l).length s) p hlen (stBits_len _ _)
  rw [without_bits] at hw
  have run : ∀ s, runV l (stBits (freeOf l).length s) = (runB l (stBits (freeOf l).length s), 0) := by
    intro s
    unfold runV
    rw [hv, decide_eq_true (stBits_len _ _)]
    rfl
  have n1 := runB_len l (stBits (freeOf l).length s)
  have n2 := runB_len l (stBits (freeOf l).length (clearN s (maskOf l p)))
  rw [blB_bits l hb d hd]
  have e := Ev.bind (f := fun k t352 => ((some (runV l t352)).bind fun bt355 => (if bt355.2 = 0 then (if ((runB l (stBits (freeOf l).length s)).length : Int) = (l.length : Int) then (if (bt355.1.length : Int) = (l.length : Int) then (if 0 ≤ (d : Int) then (if (d : Int) < ((runB l (stBits (freeOf l).length s)).length : Int) then (if rdOf false (runB l (stBits (freeOf l).length s)) (d : Int) = true then (if (d : Int) < (bt355.1.length : Int) then (some (!(rdOf false bt355.1 (d : Int)))) else (none)) else (some false)) else (none)) else (none)) else (some false)) else (some false)) else (some false))))
    (r := ((runB l (stBits (freeOf l).length s)).getD d false && !((runB l (stBits (freeOf l).length (clearN s (maskOf l p)))).getD d false))) hw (Ev.ret fun k => by
      simp only [run, Option.bind_some, if_true]
      generalize runB l (stBits (freeOf l).length s) = t1 at *
      generalize runB l (stBits (freeOf l).length (clearN s (maskOf l p))) = t2 at *
      rw [if_pos (by omega), if_pos (by omega), if_pos (by omega), if_pos (by omega)]
      cases g1 : t1.getD d false with
      | false => rw [if_neg (show ¬ rdOf false t1 (d : Int) = true from by show ¬ t1.getD d false = true; rw [g1]; decide), Bool.false_and]
      | true =>
        rw [if_pos (show rdOf false t1 (d : Int) = true from g1), if_pos (by omega), Bool.true_and]
        rfl)
  refine Ev.congr (fun k => ?_) e
  simp only [cohousinglaw36_blamed.f, cause_Run.f, Option.bind_some, run, if_true]

theorem blames_loop (l : List S44) (hv : validB l = true) (X : List Nat) (d q : Nat) (hd : d < l.length) (hq : q < 64) (hX : X.length ≤ 4096) :
    ∀ e i, X.length - i = e → i ≤ X.length → Ev (fun k => cohousinglaw36_CauseBlames.l0 k l true (d : Int) ((q : Int) + 1) (blameX l X d).1 (blameX l X d).2.1 (X.map (stBits (freeOf l).length)) (((X.take i).filter (blB l d (maskOf l ((q : Int) + 1)))).length : Nat) (X.map (stBits (freeOf l).length)) ((X.map (stBits (freeOf l).length)).length : Int) (i : Nat)) true := by
  have hlen := valid_len hv
  have hb := valid_back hv
  have hSl : (X.map (stBits (freeOf l).length)).length = X.length := by simp
  have hfr := free_ev l (by omega)
  intro e
  induction e with
  | zero =>
    intro i he hi
    obtain rfl : i = X.length := by omega
    rw [List.take_length]
    have hcnt : (X.filter (blB l d (maskOf l ((q : Int) + 1)))).length = cntB l X d ((q : Int) + 1) := rfl
    have hcl : cntB l X d ((q : Int) + 1) ≤ X.length := List.length_filter_le _ _
    rw [hcnt]
    refine Ev.ret fun k => ?_
    simp only [cohousinglaw36_CauseBlames.l0]
    rw [if_neg (by omega)]
    simp only [if_true, cohousinglaw36_in.f, Option.bind_some]
    unfold blameX
    by_cases hX0 : X.length = 0
    · rw [if_pos hX0]
      have : cntB l X d ((q : Int) + 1) = 0 := by omega
      rw [this]
      simp only [in_nil]
      rfl
    · rw [if_neg hX0]
      simp only [in_party _ q hq, sure_eq l hb X d hd hX0, maybe_eq l hb X d hd]
      rw [hSl]
      generalize cntB l X d ((q : Int) + 1) = n at *
      by_cases hn : 0 < n
      · rw [if_pos (show (n : Int) > 0 by omega), decide_eq_true hn, decide_eq_true (show (n : Int) > 0 by omega)]
        rw [if_pos (show (decide (n = X.length) == ((n : Int) == (X.length : Int))) = true from by
          rw [beq_iff_eq, Bool.eq_iff_iff, decide_eq_true_eq, beq_iff_eq]; omega)]
        rfl
      · rw [if_neg (show ¬ (n : Int) > 0 by omega), decide_eq_false hn, decide_eq_false (show ¬ (n : Int) > 0 by omega), decide_eq_false (show ¬ n = X.length by omega)]
        rfl
  | succ e ih =>
    intro i he hi
    have h3 := ih (i + 1) (by omega) (by omega)
    have hcl : ((X.take i).filter (blB l d (maskOf l ((q : Int) + 1)))).length ≤ i := Nat.le_trans (List.length_filter_le _ _) (List.length_take_le _ _)
    have htk : ((X.take (i + 1)).filter (blB l d (maskOf l ((q : Int) + 1)))).length = ((X.take i).filter (blB l d (maskOf l ((q : Int) + 1)))).length + if blB l d (maskOf l ((q : Int) + 1)) (X.getD i 0) then 1 else 0 := by
      rw [List.take_succ_eq_append_getElem (show i < X.length by omega), List.filter_append, List.length_append]
      simp only [List.filter_cons, List.filter_nil, List.getD_eq_getElem?_getD, List.getElem?_eq_getElem (show i < X.length by omega), Option.getD_some]
      split <;> rfl
    rw [htk] at h3
    have hbl := blamed_ev l hv (X.getD i 0) ((q : Int) + 1) d hd
    generalize ((X.take i).filter (blB l d (maskOf l ((q : Int) + 1)))).length = n at *
    generalize blB l d (maskOf l ((q : Int) + 1)) (X.getD i 0) = bv at *
    have e2 := Ev.bind (f := fun k t390 => (if t390 = true then (cohousinglaw36_CauseBlames.l0 k l true (d : Int) ((q : Int) + 1) (blameX l X d).1 (blameX l X d).2.1 (X.map (stBits (freeOf l).length)) (wrap64 ((n : Int) + 1)) (X.map (stBits (freeOf l).length)) ((X.map (stBits (freeOf l).length)).length : Int) (wrap64 ((i : Int) + 1))) else (cohousinglaw36_CauseBlames.l0 k l true (d : Int) ((q : Int) + 1) (blameX l X d).1 (blameX l X d).2.1 (X.map (stBits (freeOf l).length)) (n : Int) (X.map (stBits (freeOf l).length)) ((X.map (stBits (freeOf l).length)).length : Int) (wrap64 ((i : Int) + 1)))))
      (r := true) hbl (by
        rw [wrapN i (by omega), wrapN n (by omega)]
        cases bv with
        | false => simpa only [Bool.false_eq_true, if_false, Nat.add_zero] using h3
        | true => simpa only [if_true] using h3)
    have e1 := Ev.bind (f := fun k (t387 : List Int) => (if ((stBits (freeOf l).length (X.getD i 0)).length : Int) = (t387.length : Int) then ((cohousinglaw36_blamed.f k l (stBits (freeOf l).length (X.getD i 0)) ((q : Int) + 1) (d : Int)).bind fun t390 => (if t390 = true then (cohousinglaw36_CauseBlames.l0 k l true (d : Int) ((q : Int) + 1) (blameX l X d).1 (blameX l X d).2.1 (X.map (stBits (freeOf l).length)) (wrap64 ((n : Int) + 1)) (X.map (stBits (freeOf l).length)) ((X.map (stBits (freeOf l).length)).length : Int) (wrap64 ((i : Int) + 1))) else (cohousinglaw36_CauseBlames.l0 k l true (d : Int) ((q : Int) + 1) (blameX l X d).1 (blameX l X d).2.1 (X.map (stBits (freeOf l).length)) (n : Int) (X.map (stBits (freeOf l).length)) ((X.map (stBits (freeOf l).length)).length : Int) (wrap64 ((i : Int) + 1))))) else (cohousinglaw36_CauseBlames.l0 k l true (d : Int) ((q : Int) + 1) (blameX l X d).1 (blameX l X d).2.1 (X.map (stBits (freeOf l).length)) (n : Int) (X.map (stBits (freeOf l).length)) ((X.map (stBits (freeOf l).length)).length : Int) (wrap64 ((i : Int) + 1)))))
      (r := true) hfr (by simpa only [stBits_len, if_true] using e2)
    refine Ev.step (fun k => ?_) e1
    simp only [cohousinglaw36_CauseBlames.l0]
    rw [if_pos (by omega), if_pos (by omega), if_pos (by omega), rd_L3_map X _ i (by omega)]
theorem blames_ev (l : List S44) (seen : List S48) (day a b : Int) (hw : ∀ v ∈ l, v.f1.length ≤ 9223372036854775807) (ha : 0 ≤ a ∧ a < 256) (hb : 0 ≤ b ∧ b < 256) : Ev (fun k => cohousinglaw36_CauseBlames.f k l seen day a b) true := by
  have j0t : Ev (fun k => cohousinglaw36_CauseBlames.j0 k l seen day a b true true) true := Ev.ret fun k => by simp only [cohousinglaw36_CauseBlames.j0, if_true]
  have hu := usable_ev l seen day hw
  refine Ev.bind (f := fun k t362 => (if t362 = true then (cohousinglaw36_CauseBlames.j0 k l seen day a b true ((l.length : Int) == 0)) else (cohousinglaw36_CauseBlames.j0 k l seen day a b true true))) hu ?_
  cases hc : usableB l seen day with
  | false => simpa only [Bool.false_eq_true, if_false] using j0t
  | true =>
    simp only [if_true]
    obtain ⟨hv, ho, hd, _⟩ := usable_valid hc
    by_cases hl0 : l.length = 0
    · rw [show ((l.length : Int) == 0) = true from by rw [hl0]; rfl]
      exact j0t
    · rw [show ((l.length : Int) == 0) = false from by rw [beq_eq_false_iff_ne]; omega]
      obtain ⟨d, hdl, hde⟩ := tmod_nat a l.length ha.1 ha.2 (by omega)
      obtain ⟨q, hq, hqe⟩ := tmod_nat b 64 hb.1 hb.2 (by omega)
      have e1 := statesV_x l seen day hv ho hd
      have e3 := blameV_x l seen day d hv ho hd hdl
      have hXle := agS_le l seen day (valid_len hv)
      unfold statesB at e1
      generalize agS l seen day = X at *
      have hSl : (X.map (stBits (freeOf l).length)).length = X.length := by simp
      have h0 := blames_loop l hv X d q hdl hq hXle X.length 0 (by omega) (by omega)
      have j1 : Ev (fun k => cohousinglaw36_CauseBlames.j1 k l true (d : Int) ((q : Int) + 1) (blameX l X d).1 (blameX l X d).2.1 (X.map (stBits (freeOf l).length)) false) true := by
        refine Ev.step (fun k => ?_) h0
        simp only [cohousinglaw36_CauseBlames.j1, Bool.false_eq_true, if_false]
        rfl
      refine Ev.step (fun k => ?_) j1
      simp only [cohousinglaw36_CauseBlames.j0, Bool.false_eq_true, if_false]
      rw [if_neg (by omega)]
      have hp : wrap64 (1 + Int.tmod (wrap64 b) 64) = (q : Int) + 1 := by
        rw [show (64 : Int) = ((64 : Nat) : Int) from rfl, hqe]
        unfold wrap64
        omega
      simp only [cause_Blame.f, cause_States.f, Option.bind_some, hde, e1, e3, hp, if_true]
      unfold blameX
      by_cases hX0 : X.length = 0
      · simp only [if_pos hX0, hSl, hX0]
        rfl
      · simp only [if_neg hX0, hSl]
        rw [if_neg (show ¬ (((0 : Int) == 4) != ((X.length : Int) == 0)) = true from by
          rw [show ((X.length : Int) == 0) = false from by rw [beq_eq_false_iff_ne]; omega]; decide)]
        simp only [if_true]
end Go.Proofs.Ytjdhnhfglpogmaa.P
