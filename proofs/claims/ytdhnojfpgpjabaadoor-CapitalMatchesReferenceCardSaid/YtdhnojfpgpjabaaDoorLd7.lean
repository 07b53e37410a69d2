/- Chapter 32: CapitalMatchesReference answers true. -/
import Derived.Test.YtdhnojfpgpjabaaDoorPd1
import Derived.Test.YtdhnojfpgpjabaaDoorPx15
set_option linter.unusedSimpArgs false
set_option linter.unusedVariables false
namespace Go.Proofs.YtdhnojfpgpjabaaDoor.P
open Go Go.RowKit Go.Proofs.YtdhnojfpgpjabaaDoorW.PrintWords Go.Proofs.YtdhnojfpgpjabaaDoorW.PrintLast Go.Proofs.YtdhnojfpgpjabaaDoorW.PrintMore

/-- What State answers, all told. -/
def stAll (shares : Int) (l : List S36) (day : Int) : Int × Int × Int × Int × Int × Int := if badB shares day l = true then (0, 0, 0, 0, 0, 1) else stateV shares l day
def rdAll (shares : Int) (l : List S36) (wait : Int) : Int × Int × Int := if badR shares wait l = true then (0, 0, 1) else redL shares l wait l
theorem bad_no {shares day : Int} {l : List S36} (h : ¬ badB shares day l = true) : 1 ≤ shares ∧ shares ≤ 1000 ∧ 0 ≤ day ∧ day ≤ 36524 ∧ validV l = true := by
  unfold badB at h
  simp only [Bool.or_eq_true, decide_eq_true_eq, Bool.not_eq_true', not_or] at h
  obtain ⟨⟨⟨⟨h1, h2⟩, h3⟩, h4⟩, h5⟩ := h
  exact ⟨by omega, by omega, by omega, by omega, by simpa using h5⟩
theorem badR_no {shares wait : Int} {l : List S36} (h : ¬ badR shares wait l = true) : 1 ≤ shares ∧ shares ≤ 1000 ∧ 0 ≤ wait ∧ wait ≤ 1000 ∧ validV l = true := by
  unfold badR at h
  simp only [Bool.or_eq_true, decide_eq_true_eq, Bool.not_eq_true', not_or] at h
  obtain ⟨⟨⟨⟨h1, h2⟩, h3⟩, h4⟩, h5⟩ := h
  exact ⟨by omega, by omega, by omega, by omega, by simpa using h5⟩
theorem StateAll_ev (shares : Int) (l : List S36) (day : Int) : Ev (fun k => capital_State.f k shares l day) (stAll shares l day) := by
  unfold stAll
  by_cases h : badB shares day l = true
  · rw [if_pos h]
    exact State_bad_ev shares l day h
  · rw [if_neg h]
    obtain ⟨h1, h2, h3, h4, h5⟩ := bad_no h
    exact State_ev shares l day h5 h1 h2 h3 h4
theorem RedeemAll_ev (shares : Int) (l : List S36) (wait : Int) : Ev (fun k => capital_Redeem.f k shares l wait) (rdAll shares l wait) := by
  unfold rdAll
  by_cases h : badR shares wait l = true
  · rw [if_pos h]
    exact Redeem_bad_ev shares l wait h
  · rw [if_neg h]
    obtain ⟨h1, h2, h3, h4, h5⟩ := badR_no h
    exact Redeem_ev shares l wait h5 h1 h2 h3 h4
theorem day_f (n : Int) : cohousingref32_day.f n = some (decide (0 ≤ n) && decide (n ≤ 36524)) := by
  unfold cohousingref32_day.f
  by_cases h : n ≥ 0
  · rw [if_pos h, decide_eq_true h, Bool.true_and]
  · rw [if_neg h, decide_eq_false h, Bool.false_and]
theorem refStateAll_ev (shares : Int) (l : List S36) (day : Int) (hl : l.length ≤ 9223372036854775807) : Ev (fun k => cohousingref32_State.f k shares l day) (stAll shares l day) := by
  have hv := refvalid_ev l hl
  have hbad : badB shares day l = true → (validV l = true → (decide (0 ≤ day) && decide (day ≤ 36524)) = true → shares < 1 ∨ shares > 1000) := by
    intro h h1 h2
    unfold badB at h
    rw [h1] at h
    simp only [Bool.and_eq_true, decide_eq_true_eq, Bool.or_eq_true, Bool.not_true, Bool.false_eq_true, or_false] at h h2
    omega
  unfold stAll
  refine Ev.bind hv ?_
  cases hvv : validV l with
  | false =>
    rw [if_pos (by unfold badB; rw [hvv]; simp)]
    refine Ev.congr (f := fun _ => some (0, 0, 0, 0, 0, 1)) (fun k => ?_) (Ev.now _)
    rw [day_f, obs, if_neg (by simp)]
  | true =>
    cases hd : (decide (0 ≤ day) && decide (day ≤ 36524)) with
    | false =>
      rw [if_pos (by
        unfold badB
        simp only [Bool.and_eq_false_iff, decide_eq_false_iff_not] at hd
        simp only [Bool.or_eq_true, decide_eq_true_eq]
        left
        rcases hd with hd | hd
        · exact .inl (.inr (by omega))
        · exact .inr (by omega))]
      refine Ev.congr (f := fun _ => some (0, 0, 0, 0, 0, 1)) (fun k => ?_) (Ev.now _)
      rw [day_f, obs, hd, if_pos rfl, if_neg (by simp)]
    | true =>
      by_cases hb : badB shares day l = true
      · rw [if_pos hb]
        refine Ev.congr (f := fun _ => some (0, 0, 0, 0, 0, 1)) (fun k => ?_) (Ev.now _)
        rw [day_f, obs, hd, if_pos rfl, if_pos rfl]
        rcases hbad hb hvv hd with h | h
        · rw [if_pos h]
        · rw [if_neg (by omega), if_pos h]
      · rw [if_neg hb]
        obtain ⟨h1, h2, h3, h4, h5⟩ := bad_no hb
        refine Ev.congr (fun k => ?_) (refstate_ev shares l day h5 h1 h2 h3 h4)
        rw [day_f, obs, hd, if_pos rfl, if_pos rfl, if_neg (by omega), if_neg (by omega)]
        cases cohousingref32_state.f k shares l day <;> rfl
theorem refredeem_loop (shares : Int) (l : List S36) (wait : Int) (hv : validV l = true) (s0 : 1 ≤ shares) (s1 : shares ≤ 1000) (w0 : 0 ≤ wait) (w1 : wait ≤ 1000) : ∀ (d i : Nat), l.length - i = d → i ≤ l.length →
    Ev (fun k => cohousingref32_Redeem.l0 k shares l wait i) (redL shares l wait (l.drop i))
  | 0, i, hd, hi => by
    obtain rfl : i = l.length := by omega
    rw [List.drop_length]
    refine Ev.ret fun k => ?_
    simp only [cohousingref32_Redeem.l0]
    rw [if_neg (by omega)]
    rfl
  | d + 1, i, hd, hi => by
    have hlt : i < l.length := by omega
    have hrd := rd36 hlt
    have hlen := (valid_good hv).2
    have hd2 := good_days l bk1 0 (valid_good hv).1 l[i] (List.getElem_mem hlt)
    have ih := refredeem_loop shares l wait hv s0 s1 w0 w1 d (i + 1) (by omega) (by omega)
    rw [List.drop_eq_getElem_cons hlt]
    generalize l[i] = x at *
    unfold redL
    by_cases h6 : x.f0 = 6
    · rw [if_pos h6]
      by_cases hm : x.f1 + wait > 36524
      · rw [if_pos hm]
        refine Ev.ret fun k => ?_
        simp only [cohousingref32_Redeem.l0]
        rw [if_pos (by omega), if_pos (by omega), hrd, if_pos h6, IntWalk.wrap64_in _ (by omega), if_pos hm]
      · rw [if_neg hm]
        refine Ev.stepE (fun k => (cohousingref32_state.f k shares l (x.f1 + wait)).bind fun bt117 => (if bt117.2.2.2.2.2 = 0 then (some (bt117.2.2.2.2.1, x.f1 + wait, 0)) else (some (0, 0, bt117.2.2.2.2.2)))) (fun k => ?_) ?_
        · simp only [cohousingref32_Redeem.l0]
          rw [if_pos (by omega), if_pos (by omega), hrd, if_pos h6, IntWalk.wrap64_in _ (by omega), if_neg hm]
        · refine Ev.bind (refstate_ev shares l (x.f1 + wait) hv s0 s1 (by omega) (by omega)) ?_
          refine ⟨0, fun k _ => ?_⟩
          by_cases he : (stateV shares l (x.f1 + wait)).2.2.2.2.2 = 0
          · simp [endR, he]
          · simp [endR, he]
    · rw [if_neg h6]
      refine Ev.step (fun k => ?_) ih
      simp only [cohousingref32_Redeem.l0]
      rw [if_pos (by omega), if_pos (by omega), hrd, if_neg h6, wrapN i (by omega)]
theorem refRedeemAll_ev (shares : Int) (l : List S36) (wait : Int) (hl : l.length ≤ 9223372036854775807) : Ev (fun k => cohousingref32_Redeem.f k shares l wait) (rdAll shares l wait) := by
  have hj : Ev (fun k => cohousingref32_Redeem.j0 k shares l wait true) (0, 0, 1) := Ev.ret fun k => by
    simp only [cohousingref32_Redeem.j0]
    rw [if_pos trivial]
  refine Ev.bind (refvalid_ev l hl) ?_
  unfold rdAll
  cases hvv : validV l with
  | false =>
    rw [if_pos (by unfold badR; rw [hvv]; simp)]
    refine Ev.congr (fun k => ?_) hj
    rw [if_neg (by simp)]
  | true =>
    by_cases h1 : shares < 1
    · rw [if_pos (by unfold badR; simp [h1])]
      refine Ev.congr (fun k => ?_) hj
      rw [if_pos rfl, if_pos h1]
    by_cases h2 : shares > 1000
    · rw [if_pos (by unfold badR; simp [show 1000 < shares from h2])]
      refine Ev.congr (fun k => ?_) hj
      rw [if_pos rfl, if_neg h1, if_pos h2]
    by_cases h3 : wait < 0
    · rw [if_pos (by unfold badR; simp [h3])]
      refine Ev.congr (fun k => ?_) hj
      rw [if_pos rfl, if_neg h1, if_neg h2, if_pos h3]
    by_cases h4 : wait > 1000
    · rw [if_pos (by unfold badR; simp [show 1000 < wait from h4])]
      refine Ev.congr (fun k => ?_) hj
      rw [if_pos rfl, if_neg h1, if_neg h2, if_neg h3, decide_eq_true h4]
    · rw [if_neg (by unfold badR; rw [hvv, decide_eq_false h1, decide_eq_false (show ¬ 1000 < shares by omega), decide_eq_false h3, decide_eq_false (show ¬ 1000 < wait by omega)]; simp)]
      refine Ev.congr (f := fun k => cohousingref32_Redeem.j0 k shares l wait false) (fun k => ?_) (Ev.step (fun k => ?_) (refredeem_loop shares l wait hvv (by omega) (by omega) (by omega) (by omega) _ 0 rfl (by omega)))
      · rw [if_pos rfl, if_neg h1, if_neg h2, if_neg h3, decide_eq_false h4]
      · simp only [cohousingref32_Redeem.j0]
        rw [if_neg (by simp)]
        rfl
theorem matches_ev (a0 : Int) (l : List S36) (a2 a3 : Int) (hl : l.length ≤ 9223372036854775807) : Ev (fun k => cohousinglaw32_CapitalMatchesReference.f k a0 l a2 a3) true := by
  refine Ev.bind head_ev ?_
  by_cases h60 : (l.length : Int) ≤ 60
  · have hval : Ev (fun _ => capital_Valid.f l) (validV l) := ⟨0, fun _ _ => rfl⟩
    refine Ev.congr (f := fun k => (capital_State.f k a0 l a2).bind fun bt231 => (cohousingref32_State.f k a0 l a2).bind fun bt238 => (capital_Valid.f l).bind fun t245 => (cohousingref32_Valid.f k l).bind fun t246 =>
      if (t245 == t246) = true then
        (if (bt231.1 == bt238.1 && (bt231.2.1 == bt238.2.1 && (bt231.2.2.1 == bt238.2.2.1 && (bt231.2.2.2.1 == bt238.2.2.2.1 && (bt231.2.2.2.2.1 == bt238.2.2.2.2.1))))) = true then
          ((capital_Redeem.f k a0 l a3).bind fun bt247 => (cohousingref32_Redeem.f k a0 l a3).bind fun bt250 => (if bt231.2.2.2.2.2 = bt238.2.2.2.2.2 then (if bt247.1 = bt250.1 then (if bt247.2.1 = bt250.2.1 then (some (bt247.2.2 == bt250.2.2)) else (some false)) else (some false)) else (some false)))
        else ((capital_Redeem.f k a0 l a3).bind fun bt253 => (cohousingref32_Redeem.f k a0 l a3).bind fun bt256 => some false))
      else ((capital_Redeem.f k a0 l a3).bind fun bt259 => (cohousingref32_Redeem.f k a0 l a3).bind fun bt262 => some false))
      (fun k => ?_) (Ev.bind (StateAll_ev a0 l a2) (Ev.bind (refStateAll_ev a0 l a2 hl) (Ev.bind hval (Ev.bind (refvalid_ev l hl) ?_))))
    · unfold cohousingref32_Few.f
      rw [obs, decide_eq_true h60, if_pos rfl]
      simp only [if_true]
    · refine Ev.congr (f := fun k => (capital_Redeem.f k a0 l a3).bind fun bt247 => ((cohousingref32_Redeem.f k a0 l a3).bind fun bt250 => (if bt247.1 = bt250.1 then (if bt247.2.1 = bt250.2.1 then (some (bt247.2.2 == bt250.2.2)) else (some false)) else (some false)))) (fun k => ?_) (Ev.bind (RedeemAll_ev a0 l a3) (Ev.bind (refRedeemAll_ev a0 l a3 hl) ?_))
      · simp only [beq_self_eq_true, Bool.and_self, if_true]
      · refine Ev.congr (f := fun _ => some true) (fun k => ?_) (Ev.now true)
        rw [if_pos rfl, if_pos rfl, beq_self_eq_true]
  · refine Ev.congr (f := fun _ => some true) (fun k => ?_) (Ev.now true)
    unfold cohousingref32_Few.f
    rw [obs, decide_eq_false h60, if_neg (by simp)]
end Go.Proofs.YtdhnojfpgpjabaaDoor.P
