/- Chapter 32: CapitalLien answers true. -/
import Derived.Test.YtdhnojfpgpjabaaDoorPcC
set_option linter.unusedSimpArgs false
set_option linter.unusedVariables false
namespace Go.Proofs.YtdhnojfpgpjabaaDoor.P
open Go Go.RowKit Go.Proofs.YtdhnojfpgpjabaaDoorW.PrintWords Go.Proofs.YtdhnojfpgpjabaaDoorW.PrintLast Go.Proofs.YtdhnojfpgpjabaaDoorW.PrintMore

theorem days_before : ∀ (l : List S36) (x : S36) (b : Bk) (last : Int), GoodX b last (l ++ [x]) → ∀ y ∈ l, y.f1 ≤ x.f1
  | [], x, b, last, hg, y, hy => by simp at hy
  | z :: r, x, b, last, hg, y, hy => by
    obtain ⟨hs, hm, hr⟩ := goodX_cons.1 hg
    rcases List.mem_cons.1 hy with rfl | hy
    · exact (good_days (r ++ [x]) _ _ hr x (by simp)).1
    · exact days_before r x _ _ hr y hy
theorem lien_sum (day : Int) (x : S36) (h4 : x.f0 = 4) (hx : x.f1 ≤ day) : ∀ (l : List S36) (b : Bk) (from_ last : Int), GoodX b last (l ++ [x]) → (∀ y ∈ l, y.f1 ≤ day) → sumI (strX day b from_ (l ++ [x])) = sumI (strX day b from_ l)
  | [], b, from_, last, hg, hd => by
    obtain ⟨hs, hm, hr⟩ := goodX_cons.1 hg
    have hc : ¬ cutB x = true := by simp [cutB, h4]
    have e1 : strX day b from_ [x] = [(day - from_, takeX b x)] := by rw [strX, if_neg (by omega), if_neg hc, strX]
    have e2 : strX day b from_ [] = [(day - from_, b)] := rfl
    rw [List.nil_append, e1, e2, sumI_one, sumI_one, itI_noncut hs hc]
  | z :: r, b, from_, last, hg, hd => by
    obtain ⟨hs, hm, hr⟩ := goodX_cons.1 hg
    have hz := hd z (by simp)
    rw [List.cons_append, strX, strX, if_neg (show ¬ day < z.f1 by omega), if_neg (show ¬ day < z.f1 by omega)]
    by_cases hc : cutB z = true
    · rw [if_pos hc, if_pos hc, sumI_cons, sumI_cons, lien_sum day x h4 hx r _ _ z.f1 hr (fun y hy => hd y (by simp [hy]))]
    · rw [if_neg hc, if_neg hc]
      exact lien_sum day x h4 hx r _ _ z.f1 hr (fun y hy => hd y (by simp [hy]))
theorem lien_end (day : Int) (x : S36) (hx : x.f1 ≤ day) : ∀ (l : List S36) (b : Bk), (∀ y ∈ l, y.f1 ≤ day) → endX day b (l ++ [x]) = takeX (endX day b l) x
  | [], b, hd => by
    have e1 : endX day b [x] = takeX b x := by rw [endX, if_neg (by omega), endX]
    have e2 : endX day b [] = b := rfl
    rw [List.nil_append, e1, e2]
  | z :: r, b, hd => by
    have hz := hd z (by simp)
    rw [List.cons_append, endX, endX, if_neg (show ¬ day < z.f1 by omega), if_neg (show ¬ day < z.f1 by omega), lien_end day x hx r _ (fun y hy => hd y (by simp [hy]))]
/-- Where the further step is possible. -/
theorem lien_yes (a0 : Int) (l : List S36) (last n on_ : Int) (hl : l.length ≤ 59) (hv : validV l = true) (hm : validV (l ++ [(⟨4, last, n⟩ : S36)]) = true) (hn : 1 ≤ n) (hn1 : n ≤ 1000000000) (hl0 : 0 ≤ last) (hl1 : last ≤ 36524) (o0 : 0 ≤ on_) (o1 : on_ ≤ 36524) (c0 : 0 ≤ a0) :
    (stateV (1 + a0 % 1000) l (min 36524 (last + on_))).2.2.2.2.2 = 0 → ∃ A A2 : Acc, stateV (1 + a0 % 1000) l (min 36524 (last + on_)) = (A.paid, A.value, A.interest, A.lien, dueV A, 0) ∧ stateV (1 + a0 % 1000) (l ++ [(⟨4, last, n⟩ : S36)]) (min 36524 (last + on_)) = (A.paid, A.value, A.interest, A.lien + n, dueV A2, 0) ∧
      dueV A = max 0 (min A.paid A.value + A.interest - A.lien) ∧ dueV A2 = max 0 (min A.paid A.value + A.interest - (A.lien + n)) ∧ 0 ≤ A.paid ∧ A.paid ≤ 1000000000 ∧ 0 ≤ A.value ∧ A.value ≤ 100000000 ∧ 0 ≤ A.interest ∧ A.interest ≤ 1000000000 ∧ 0 ≤ A.lien ∧ A.lien + n ≤ 1000000000 := by
  intro e1
  have hx : (⟨4, last, n⟩ : S36).f1 ≤ min 36524 (last + on_) := by show last ≤ min 36524 (last + on_); omega
  have hd := days_before l _ bk1 0 (valid_good hm).1
  have hd2 : ∀ y ∈ l, y.f1 ≤ min 36524 (last + on_) := fun y hy => Int.le_trans (hd y hy) hx
  have hsum : intV (l ++ [(⟨4, last, n⟩ : S36)]) (min 36524 (last + on_)) = intV l (min 36524 (last + on_)) := lien_sum _ _ rfl hx l bk1 0 0 (valid_good hm).1 hd2
  have hend := lien_end _ _ hx l bk1 hd2
  have hb := endX_ok (min 36524 (last + on_)) l bk1 0 bk1_ok (valid_good hv).1
  have hb2 := endX_ok (min 36524 (last + on_)) _ bk1 0 bk1_ok (valid_good hm).1
  rw [hend] at hb2
  obtain ⟨hi, ha, hst⟩ := stateV_yes e1
  obtain ⟨q1, q2, q3⟩ := due_eq (1 + a0 % 1000) l (min 36524 (last + on_)) hv (by omega) (by omega) hi
  obtain ⟨r1, r2, r3⟩ := due_eq (1 + a0 % 1000) _ (min 36524 (last + on_)) hm (by omega) (by omega) (by rw [hsum]; exact hi)
  have hA2 : accV (1 + a0 % 1000) (l ++ [(⟨4, last, n⟩ : S36)]) (min 36524 (last + on_)) = ⟨(accV (1 + a0 % 1000) l (min 36524 (last + on_))).paid, (accV (1 + a0 % 1000) l (min 36524 (last + on_))).value, (accV (1 + a0 % 1000) l (min 36524 (last + on_))).interest, (accV (1 + a0 % 1000) l (min 36524 (last + on_))).lien + n⟩ := by
    unfold accV
    rw [hsum, hend]
    rfl
  have hp0 : 0 ≤ (accV (1 + a0 % 1000) l (min 36524 (last + on_))).paid := hb.p0
  have hp1 : (accV (1 + a0 % 1000) l (min 36524 (last + on_))).paid ≤ 1000000000 := hb.p1
  have hli0 : 0 ≤ (accV (1 + a0 % 1000) l (min 36524 (last + on_))).lien := hb.l0
  have hli1 : (accV (1 + a0 % 1000) l (min 36524 (last + on_))).lien + n ≤ 1000000000 := hb2.l1
  have hI0 : 0 ≤ (accV (1 + a0 % 1000) l (min 36524 (last + on_))).interest := by show (0 : Int) ≤ ((intV l (min 36524 (last + on_)) : Nat) : Int); omega
  have hI1 : (accV (1 + a0 % 1000) l (min 36524 (last + on_))).interest ≤ 1000000000 := by show ((intV l (min 36524 (last + on_)) : Nat) : Int) ≤ 1000000000; omega
  have hst2 : stateV (1 + a0 % 1000) (l ++ [(⟨4, last, n⟩ : S36)]) (min 36524 (last + on_)) = endV (some (accV (1 + a0 % 1000) (l ++ [(⟨4, last, n⟩ : S36)]) (min 36524 (last + on_)))) := by
    unfold stateV
    rw [if_pos (by rw [hsum]; exact hi)]
  rw [hA2] at r1 hst2
  clear hA2 hsum hend hb hb2 e1 hd hd2 r2 r3 hi
  generalize accV (1 + a0 % 1000) l (min 36524 (last + on_)) = A at *
  refine ⟨A, ⟨A.paid, A.value, A.interest, A.lien + n⟩, hst, ?_, q1, r1, hp0, hp1, q2, q3, hI0, hI1, hli0, hli1⟩
  rw [hst2]
  unfold endV
  have hamt : amtB (dueV ⟨A.paid, A.value, A.interest, A.lien + n⟩) = true := by
    have h1 : dueV A ≤ 1000000000 := by
      unfold amtB at ha
      simp only [Bool.and_eq_true, decide_eq_true_eq] at ha
      exact ha.2
    unfold amtB
    simp only [Bool.and_eq_true, decide_eq_true_eq]
    rw [r1]
    rw [q1] at h1
    show -1000000000 ≤ max 0 (min A.paid A.value + A.interest - (A.lien + n)) ∧ max 0 (min A.paid A.value + A.interest - (A.lien + n)) ≤ 1000000000
    omega
  simp only [hamt, if_true]
end Go.Proofs.YtdhnojfpgpjabaaDoor.P
