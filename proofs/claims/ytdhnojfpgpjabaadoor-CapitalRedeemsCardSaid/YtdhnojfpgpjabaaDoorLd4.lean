/- Chapter 32: CapitalRedeems answers true. -/
import Derived.Test.YtdhnojfpgpjabaaDoorPcC
import Derived.Test.YtdhnojfpgpjabaaDoorPx20
set_option linter.unusedSimpArgs false
set_option linter.unusedVariables false
namespace Go.Proofs.YtdhnojfpgpjabaaDoor.P
open Go Go.RowKit Go.Proofs.YtdhnojfpgpjabaaDoorW.PrintWords Go.Proofs.YtdhnojfpgpjabaaDoorW.PrintLast Go.Proofs.YtdhnojfpgpjabaaDoorW.PrintMore

/-- The day of the last notice, or what was told before. -/
def ntV (acc : Int) : List S36 → Int
  | [] => acc
  | x :: r => ntV (if x.f0 = 6 then x.f1 else acc) r
theorem nt_none : ∀ (l : List S36) (acc : Int), (∀ x ∈ l, x.f0 ≠ 6) → ntV acc l = acc
  | [], acc, _ => rfl
  | x :: r, acc, h => by
    rw [ntV, if_neg (h x (by simp)), nt_none r acc (fun y hy => h y (by simp [hy]))]
theorem one_notice : ∀ (l : List S36) (b : Bk) (last : Int), b.notice = true → GoodX b last l → ∀ x ∈ l, x.f0 ≠ 6
  | [], b, last, hn, hg, x, hx => by simp at hx
  | y :: r, b, last, hn, hg, x, hx => by
    obtain ⟨hs, hm, hr⟩ := goodX_cons.1 hg
    rcases List.mem_cons.1 hx with rfl | hx
    · intro h6
      simp [mayB, h6, hn] at hm
    · exact one_notice r _ y.f1 (by simp [takeX, nN, hn]) hr x hx
theorem notice_cases (shares : Int) (L : List S36) (w : Int) : ∀ (l : List S36) (b : Bk) (last : Int), 0 ≤ last → GoodX b last l →
    (ntV (-1) l = -1 ∧ redL shares L w l = (0, 0, 6)) ∨ (∃ n : Int, 0 ≤ n ∧ n ≤ 36524 ∧ ntV (-1) l = n ∧ redL shares L w l = (if n + w > 36524 then (0, 0, 3) else endR (stateV shares L (n + w)) (n + w)))
  | [], b, last, h0, hg => .inl ⟨rfl, rfl⟩
  | x :: r, b, last, h0, hg => by
    obtain ⟨hs, hm, hr⟩ := goodX_cons.1 hg
    obtain ⟨d1, d2⟩ := step_days hs
    by_cases h6 : x.f0 = 6
    · refine .inr ⟨x.f1, by omega, d2, ?_, ?_⟩
      · rw [ntV, if_pos h6]
        exact nt_none r _ (one_notice r _ x.f1 (by simp [takeX, nN, h6]) hr)
      · rw [redL, if_pos h6]
    · rw [ntV, redL, if_neg h6, if_neg h6]
      exact notice_cases shares L w r _ x.f1 (by omega) hr
theorem redeems_loop (a0 : Int) (l : List S36) (hlen : l.length ≤ 1000) (w c dd e : Int) : ∀ (d i : Nat) (acc : Int), l.length - i = d → i ≤ l.length → Ev (fun k => cohousinglaw32_CapitalRedeems.l0 k a0 l true w c dd e (ntV acc (l.drop i)) l.length) true →
    Ev (fun k => cohousinglaw32_CapitalRedeems.l0 k a0 l true w c dd e acc i) true
  | 0, i, acc, hd, hi, h => by
    obtain rfl : i = l.length := by omega
    rw [List.drop_length] at h
    exact h
  | d + 1, i, acc, hd, hi, h => by
    have hlt : i < l.length := by omega
    have hrd := rd36 hlt
    rw [List.drop_eq_getElem_cons hlt, ntV] at h
    have ih := redeems_loop a0 l hlen w c dd e d (i + 1) _ (by omega) (by omega) h
    refine Ev.step (fun k => ?_) ih
    simp only [cohousinglaw32_CapitalRedeems.l0]
    rw [if_pos (by omega), if_pos (by omega), hrd, wrapN i (by omega)]
    by_cases h6 : l[i].f0 = 6
    · rw [if_pos h6, if_pos h6]
    · rw [if_neg h6, if_neg h6]
theorem redeems_no (a0 : Int) (l : List S36) (w n e : Int) (he : e ≠ 0) (h : decide (n < 0) = (e == 6)) : Ev (fun k => cohousinglaw32_CapitalRedeems.l0 k a0 l true w 0 0 e n l.length) true := by
  refine Ev.ret fun k => ?_
  simp only [cohousinglaw32_CapitalRedeems.l0]
  rw [if_neg (by omega), if_neg he]
  simp only [if_true]
  rw [h]
  simp
theorem redeems_ev (a0 : Int) (l : List S36) (a2 : Int) (hl : l.length ≤ 9223372036854775807) (h0 : 0 ≤ a0 ∧ a0 ≤ 65535) (h2 : 0 ≤ a2 ∧ a2 ≤ 65535) : Ev (fun k => cohousinglaw32_CapitalRedeems.f k a0 l a2) true := by
  refine Ev.bind head_ev (Ev.bind (usable_ev l hl) ?_)
  cases hu : (decide (l.length ≤ 60) && validV l) with
  | false => exact ⟨0, fun k _ => if_neg (by simp)⟩
  | true =>
    simp only [Bool.and_eq_true] at hu
    have hv := hu.2
    obtain ⟨hg, hlen⟩ := valid_good hv
    have ew : Int.tmod (wrap64 a2) 1001 = a2 % 1001 := by rw [IntWalk.wrap64_in a2 (by omega), Int.tmod_eq_emod_of_nonneg h2.1]
    have hw0 : 0 ≤ a2 % 1001 := by omega
    have hw1 : a2 % 1001 ≤ 1000 := by omega
    have hr := Redeem_ev (1 + a0 % 1000) l (a2 % 1001) hv (by omega) (by omega) hw0 hw1
    have hc := notice_cases (1 + a0 % 1000) l (a2 % 1001) l bk1 0 (by omega) hg
    generalize a2 % 1001 = w at *
    refine Ev.congr (f := fun k => (capital_Redeem.f k (1 + a0 % 1000) l w).bind fun bt367 => cohousinglaw32_CapitalRedeems.l0 k a0 l true w bt367.1 bt367.2.1 bt367.2.2 (-1) 0) (fun k => ?_) (Ev.bind hr ?_)
    · rw [if_pos rfl, count_f a0 h0.1 h0.2, ew]
      simp only [obs]
    · refine redeems_loop a0 l hlen w _ _ _ _ 0 (-1) rfl (by omega) ?_
      rw [List.drop_zero]
      rcases hc with ⟨hn, he⟩ | ⟨n, n0, n1, hn, he⟩
      · rw [hn, he]
        exact redeems_no a0 l w (-1) 6 (by decide) (by decide)
      · rw [hn, he]
        by_cases hm : n + w > 36524
        · rw [if_pos hm]
          exact redeems_no a0 l w n 3 (by decide) (by rw [decide_eq_false (by omega)]; decide)
        · rw [if_neg hm]
          by_cases e1 : (stateV (1 + a0 % 1000) l (n + w)).2.2.2.2.2 = 0
          · obtain ⟨hi, _, hst⟩ := stateV_yes e1
            obtain ⟨hdue, hv0, hv1⟩ := due_eq (1 + a0 % 1000) l (n + w) hv (by omega) (by omega) hi
            have hs := State_ev (1 + a0 % 1000) l (n + w) hv (by omega) (by omega) (by omega) (by omega)
            have hb := endX_ok (n + w) l bk1 0 bk1_ok hg
            have hp0 : 0 ≤ (accV (1 + a0 % 1000) l (n + w)).paid := hb.p0
            have hp1 : (accV (1 + a0 % 1000) l (n + w)).paid ≤ 1000000000 := hb.p1
            have hl0 : 0 ≤ (accV (1 + a0 % 1000) l (n + w)).lien := hb.l0
            have hI0 : 0 ≤ (accV (1 + a0 % 1000) l (n + w)).interest := by show (0 : Int) ≤ ((intV l (n + w) : Nat) : Int); omega
            have hI1 : (accV (1 + a0 % 1000) l (n + w)).interest ≤ 1000000000 := by show ((intV l (n + w) : Nat) : Int) ≤ 1000000000; omega
            rw [show endR (stateV (1 + a0 % 1000) l (n + w)) (n + w) = (dueV (accV (1 + a0 % 1000) l (n + w)), n + w, 0) by unfold endR; rw [if_pos e1, hst]]
            rw [hst] at hs
            generalize accV (1 + a0 % 1000) l (n + w) = A at *
            clear hst e1 he hr
            refine Ev.stepE (fun k => (capital_State.f k (1 + a0 % 1000) l (n + w)).bind fun bt373 => (if bt373.2.2.2.2.2 = 0 then (if (n + w) = (n + w) then (if dueV A = bt373.2.2.2.2.1 then (if 0 ≤ dueV A then (some (decide (dueV A ≤ (wrap64 (bt373.1 + bt373.2.2.1))))) else (some false)) else (some false)) else (some false)) else (some false))) (fun k => ?_) (Ev.bind hs ?_)
            · simp only [cohousinglaw32_CapitalRedeems.l0]
              rw [if_neg (by omega), count_f a0 h0.1 h0.2, obs, IntWalk.wrap64_in (n + w) (by omega)]
              simp only [if_true]
            · refine Ev.congr (f := fun _ => some true) (fun k => ?_) (Ev.now true)
              rw [if_pos rfl, if_pos rfl, if_pos rfl, if_pos (by rw [hdue]; omega), IntWalk.wrap64_in _ (by show -9223372036854775808 ≤ A.paid + A.interest ∧ A.paid + A.interest ≤ 9223372036854775807; omega), decide_eq_true (by show dueV A ≤ A.paid + A.interest; rw [hdue]; omega)]
          · rw [stateV_no e1]
            exact redeems_no a0 l w n 3 (by decide) (by rw [decide_eq_false (by omega)]; decide)
end Go.Proofs.YtdhnojfpgpjabaaDoor.P
