/- Chapter 32, pure: when steps are valid; the program's and the reference's Valid are the same. -/
import Derived.Test.YtdhnojfpgpjabaaDoorXValid
import Derived.Test.YtdhnojfpgpjabaaDoorPx8
set_option linter.unusedSimpArgs false
set_option linter.unusedVariables false
namespace Go.Proofs.YtdhnojfpgpjabaaDoor.P
open Go Go.RowKit Go.Proofs.YtdhnojfpgpjabaaDoorW.PrintWords Go.Proofs.YtdhnojfpgpjabaaDoorW.PrintLast Go.Proofs.YtdhnojfpgpjabaaDoorW.PrintMore

theorem obs {α β : Type} (a : α) (f : α → Option β) : (some a).bind f = f a := (Option.bind_some a f).trans (Eq.refl _)
/-- A step's form. -/
def stepB (last : Int) (x : S36) : Bool :=
  decide (last ≤ x.f1) && decide (x.f1 ≤ 36524) &&
  (if x.f0 = 1 ∨ x.f0 = 4 ∨ x.f0 = 5 then decide (1 ≤ x.f2) && decide (x.f2 ≤ 1000000000) else if x.f0 = 2 then decide (1 ≤ x.f2) && decide (x.f2 ≤ 100000) else if x.f0 = 3 then decide (0 ≤ x.f2) && decide (x.f2 ≤ 10000) else decide (x.f0 = 6) && decide (x.f2 = 0))
def nP (p : Int) (x : S36) : Int := if x.f0 = 1 then p + x.f2 else p
def nL (l : Int) (x : S36) : Int := if x.f0 = 4 then l + x.f2 else if x.f0 = 5 then l - x.f2 else l
def nN (n : Bool) (x : S36) : Bool := n || decide (x.f0 = 6)
/-- A step is possible. -/
def mayB (p l : Int) (n : Bool) (x : S36) : Bool :=
  if x.f0 = 1 then !n && decide (p + x.f2 ≤ 1000000000) else if x.f0 = 4 then decide (l + x.f2 ≤ 1000000000) else if x.f0 = 5 then decide (0 ≤ l - x.f2) else if x.f0 = 6 then !n else true
def goodL (p l : Int) (n : Bool) (last : Int) : List S36 → Bool
  | [] => true
  | x :: r => stepB last x && mayB p l n x && goodL (nP p x) (nL l x) (nN n x) x.f1 r
theorem goodL_cons {p l : Int} {n : Bool} {last : Int} {x : S36} {r : List S36} : goodL p l n last (x :: r) = true ↔ stepB last x = true ∧ mayB p l n x = true ∧ goodL (nP p x) (nL l x) (nN n x) x.f1 r = true := by
  simp [goodL, and_assoc]
theorem step_days {last : Int} {x : S36} (h : stepB last x = true) : last ≤ x.f1 ∧ x.f1 ≤ 36524 := by
  unfold stepB at h
  simp only [Bool.and_eq_true, decide_eq_true_eq] at h
  exact h.1
theorem step_kind {last : Int} {x : S36} (h : stepB last x = true) : (x.f0 = 1 ∧ 1 ≤ x.f2 ∧ x.f2 ≤ 1000000000) ∨ (x.f0 = 2 ∧ 1 ≤ x.f2 ∧ x.f2 ≤ 100000) ∨ (x.f0 = 3 ∧ 0 ≤ x.f2 ∧ x.f2 ≤ 10000) ∨ (x.f0 = 4 ∧ 1 ≤ x.f2 ∧ x.f2 ≤ 1000000000) ∨ (x.f0 = 5 ∧ 1 ≤ x.f2 ∧ x.f2 ≤ 1000000000) ∨ (x.f0 = 6 ∧ x.f2 = 0) := by
  unfold stepB at h
  simp only [Bool.and_eq_true] at h
  have h2 := h.2
  split at h2
  · simp only [Bool.and_eq_true, decide_eq_true_eq] at h2
    omega
  · split at h2
    · simp only [Bool.and_eq_true, decide_eq_true_eq] at h2
      omega
    · split at h2
      · simp only [Bool.and_eq_true, decide_eq_true_eq] at h2
        omega
      · simp only [Bool.and_eq_true, decide_eq_true_eq] at h2
        omega
/-- What is so along valid steps. -/
theorem may_bounds {p l last : Int} {n : Bool} {x : S36} (hp : 0 ≤ p) (hp1 : p ≤ 1000000000) (hl : 0 ≤ l) (hl1 : l ≤ 1000000000) (h : stepB last x = true) (hm : mayB p l n x = true) : 0 ≤ nP p x ∧ nP p x ≤ 1000000000 ∧ 0 ≤ nL l x ∧ nL l x ≤ 1000000000 := by
  have hk := step_kind h
  unfold mayB at hm
  unfold nP nL
  rcases hk with ⟨e, h1, h2⟩ | ⟨e, h1, h2⟩ | ⟨e, h1, h2⟩ | ⟨e, h1, h2⟩ | ⟨e, h1, h2⟩ | ⟨e, h1⟩ <;> simp [e] at hm ⊢ <;> omega

/-! The program's check. -/
theorem odd_step {last : Int} {x : S36} : (oddB last x || (decide (x.f2 < loV x.f0) || decide (hiV x.f0 < x.f2))) = !stepB last x := by
  by_cases h1 : x.f0 = 1
  · simp only [oddB, stepB, h1]
    simp [show loV 1 = 1 from rfl, show hiV 1 = 1000000000 from rfl]
    first | (done) | (rw [Bool.eq_iff_iff]; simp; done) | (rw [Bool.eq_iff_iff]; simp; omega)
  by_cases h2 : x.f0 = 2
  · simp only [oddB, stepB, h2]
    simp [show loV 2 = 1 from rfl, show hiV 2 = 100000 from rfl]
    first | (done) | (rw [Bool.eq_iff_iff]; simp; done) | (rw [Bool.eq_iff_iff]; simp; omega)
  by_cases h3 : x.f0 = 3
  · simp only [oddB, stepB, h3]
    simp [show loV 3 = 0 from rfl, show hiV 3 = 10000 from rfl]
    first | (done) | (rw [Bool.eq_iff_iff]; simp; done) | (rw [Bool.eq_iff_iff]; simp; omega)
  by_cases h4 : x.f0 = 4
  · simp only [oddB, stepB, h4]
    simp [show loV 4 = 1 from rfl, show hiV 4 = 1000000000 from rfl]
    first | (done) | (rw [Bool.eq_iff_iff]; simp; done) | (rw [Bool.eq_iff_iff]; simp; omega)
  by_cases h5 : x.f0 = 5
  · simp only [oddB, stepB, h5]
    simp [show loV 5 = 1 from rfl, show hiV 5 = 1000000000 from rfl]
    first | (done) | (rw [Bool.eq_iff_iff]; simp; done) | (rw [Bool.eq_iff_iff]; simp; omega)
  by_cases h6 : x.f0 = 6
  · simp only [oddB, stepB, h6]
    simp [show loV 6 = 0 from rfl, show hiV 6 = 0 from rfl]
    first | (done) | (rw [Bool.eq_iff_iff]; simp; done) | (rw [Bool.eq_iff_iff]; simp; omega)
  have ho : oddB last x = true := by
    unfold oddB
    simp only [Bool.or_eq_true, decide_eq_true_eq]
    omega
  have hs : stepB last x = false := by
    unfold stepB
    simp [h1, h2, h3, h4, h5, h6]
  rw [ho, hs]
  rfl
theorem take_good {b : Bk} {last : Int} {x : S36} (hp : 0 ≤ b.paid) (hp1 : b.paid ≤ 1000000000) (hl : 0 ≤ b.lien) (hl1 : b.lien ≤ 1000000000) (h : stepB last x = true) :
    (takeV b x.f0 x.f2).2 = mayB b.paid b.lien b.notice x ∧ ((takeV b x.f0 x.f2).1.paid = nP b.paid x ∧ (takeV b x.f0 x.f2).1.lien = nL b.lien x ∧ (takeV b x.f0 x.f2).1.notice = nN b.notice x) := by
  have w1 : ∀ y : Int, 1 ≤ y → y ≤ 1000000000 → wrap64 (b.paid + y) = b.paid + y := fun y h1 h2 => IntWalk.wrap64_in _ (by omega)
  have w2 : ∀ y : Int, 1 ≤ y → y ≤ 1000000000 → wrap64 (b.lien + y) = b.lien + y := fun y h1 h2 => IntWalk.wrap64_in _ (by omega)
  have w3 : ∀ y : Int, 1 ≤ y → y ≤ 1000000000 → wrap64 (b.lien - y) = b.lien - y := fun y h1 h2 => IntWalk.wrap64_in _ (by omega)
  rcases step_kind h with ⟨e, h1, h2⟩ | ⟨e, h1, h2⟩ | ⟨e, h1, h2⟩ | ⟨e, h1, h2⟩ | ⟨e, h1, h2⟩ | ⟨e, h1⟩
  · simp only [takeV, mayB, nP, nL, nN, e, w1 _ h1 h2, amtB]
    refine ⟨?_, ?_⟩
    · have : decide (-1000000000 ≤ b.paid + x.f2) = true := decide_eq_true (by omega)
      simp [this]
    · simp
  · simp [takeV, mayB, nP, nL, nN, e]
  · simp [takeV, mayB, nP, nL, nN, e]
  · simp only [takeV, mayB, nP, nL, nN, e, w2 _ h1 h2, amtB]
    refine ⟨?_, ?_⟩
    · have : decide (-1000000000 ≤ b.lien + x.f2) = true := decide_eq_true (by omega)
      simp [this]
    · simp
  · simp [takeV, mayB, nP, nL, nN, e, w3 _ h1 h2]
  · simp [takeV, mayB, nP, nL, nN, e]
theorem validL_good : ∀ (l : List S36) (b : Bk) (last : Int), 0 ≤ b.paid → b.paid ≤ 1000000000 → 0 ≤ b.lien → b.lien ≤ 1000000000 → validL b last l = goodL b.paid b.lien b.notice last l
  | [], b, last, _, _, _, _ => rfl
  | x :: r, b, last, hp, hp1, hl, hl1 => by
    unfold validL goodL
    have ho := @odd_step last x
    cases hs : stepB last x with
    | false =>
      rw [hs] at ho
      simp only [Bool.not_false, Bool.or_eq_true] at ho
      simp only [Bool.false_and]
      rcases ho with h | h
      · rw [if_pos h]
      · split
        · rfl
        · rw [if_pos (by simpa using h)]
    | true =>
      rw [hs] at ho
      simp only [Bool.not_true, Bool.or_eq_false_iff] at ho
      rw [if_neg (by simp [ho.1]), if_neg (by simp [ho.2.1, ho.2.2])]
      obtain ⟨h1, h2, h3, h4⟩ := take_good hp hp1 hl hl1 hs
      rw [h1]
      cases hm : mayB b.paid b.lien b.notice x with
      | false => simp
      | true =>
        obtain ⟨b1, b2, b3, b4⟩ := may_bounds hp hp1 hl hl1 hs hm
        rw [if_neg (by simp)]
        rw [validL_good r _ x.f1 (by omega) (by omega) (by omega) (by omega), h2, h3, h4]
        simp
theorem validV_good (l : List S36) : validV l = (goodL 0 0 false 0 l && decide (l.length ≤ 1000)) := by
  unfold validV
  rw [validL_good l bk0 0 (by decide) (by decide) (by decide) (by decide)]
  rfl

/-! The reference's check. -/
theorem rd36 {l : List S36} {i : Nat} (h : i < l.length) : rd_T36 l (i : Int) = l[i] := by
  unfold rd_T36
  simp [List.getD, h]
theorem refstep_ev (x : S36) : Ev (fun k => cohousingref32_step.f k x.f0 x.f1 x.f2) (stepB 0 x) := by
  have hd : cohousingref32_day.f x.f1 = some (decide (0 ≤ x.f1) && decide (x.f1 ≤ 36524)) := by
    unfold cohousingref32_day.f
    by_cases h : x.f1 ≥ 0
    · rw [if_pos h, decide_eq_true h, Bool.true_and]
    · rw [if_neg h, decide_eq_false h, Bool.false_and]
  have hj : ∀ t, Ev (fun k => cohousingref32_step.j0 k x.f0 t x.f0 x.f1 x.f2) (if t = true then decide (1 ≤ x.f2) && decide (x.f2 ≤ 1000000000) else if x.f0 = 2 then decide (1 ≤ x.f2) && decide (x.f2 ≤ 100000) else if x.f0 = 3 then decide (0 ≤ x.f2) && decide (x.f2 ≤ 10000) else decide (x.f0 = 6) && decide (x.f2 = 0)) := by
    intro t
    refine Ev.ret fun k => ?_
    simp only [cohousingref32_step.j0]
    by_cases ht : t = true
    · rw [if_pos ht, if_pos ht]
      by_cases h : x.f2 ≥ 1
      · rw [if_pos h, decide_eq_true h, Bool.true_and]
      · rw [if_neg h, decide_eq_false h, Bool.false_and]
    · rw [if_neg ht, if_neg ht]
      by_cases h2 : x.f0 = 2
      · rw [if_pos h2, if_pos h2]
        by_cases h : x.f2 ≥ 1
        · rw [if_pos h, decide_eq_true h, Bool.true_and]
        · rw [if_neg h, decide_eq_false h, Bool.false_and]
      · rw [if_neg h2, if_neg h2]
        by_cases h3 : x.f0 = 3
        · rw [if_pos h3, if_pos h3]
          by_cases h : x.f2 ≥ 0
          · rw [if_pos h, decide_eq_true h, Bool.true_and]
          · rw [if_neg h, decide_eq_false h, Bool.false_and]
        · rw [if_neg h3, if_neg h3]
          by_cases h6 : x.f0 = 6
          · rw [if_pos h6, decide_eq_true h6, Bool.true_and]
            exact congrArg some (by rw [Bool.eq_iff_iff]; simp)
          · rw [if_neg h6, decide_eq_false h6, Bool.false_and]
  unfold cohousingref32_step.f stepB
  rw [hd]
  simp only [obs]
  cases hb : (decide (0 ≤ x.f1) && decide (x.f1 ≤ 36524)) with
  | false => exact ⟨0, fun k _ => by simp⟩
  | true =>
    refine Ev.congr (f := fun k => cohousingref32_step.j0 k x.f0 (decide (x.f0 = 1 ∨ x.f0 = 4 ∨ x.f0 = 5)) x.f0 x.f1 x.f2) (fun k => ?_) ?_
    · rw [if_pos rfl]
      by_cases h1 : x.f0 = 1
      · rw [if_pos h1]; simp [h1]
      · rw [if_neg h1]
        by_cases h4 : x.f0 = 4
        · rw [if_pos h4]; simp [h4]
        · rw [if_neg h4]
          congr 1
          rw [Bool.eq_iff_iff]
          simp [h1, h4]
    · have h := hj (decide (x.f0 = 1 ∨ x.f0 = 4 ∨ x.f0 = 5))
      simpa using h
end Go.Proofs.YtdhnojfpgpjabaaDoor.P
/- Chapter 32, pure: the reference's Valid. -/
set_option linter.unusedSimpArgs false
set_option linter.unusedVariables false
namespace Go.Proofs.YtdhnojfpgpjabaaDoor.P
open Go Go.RowKit Go.Proofs.YtdhnojfpgpjabaaDoorW.PrintWords Go.Proofs.YtdhnojfpgpjabaaDoorW.PrintLast Go.Proofs.YtdhnojfpgpjabaaDoorW.PrintMore

theorem amt_f (c : Int) : cohousingref02_Amount.f c = some (amtB c) := by
  unfold cohousingref02_Amount.f amtB
  by_cases h : c ≥ -1000000000
  · rw [if_pos h, decide_eq_true h, Bool.true_and]
  · rw [if_neg h, decide_eq_false h, Bool.false_and]
theorem step_last {last : Int} {x : S36} (h : 0 ≤ last) : stepB last x = (stepB 0 x && decide (last ≤ x.f1)) := by
  unfold stepB
  by_cases h1 : last ≤ x.f1
  · have h2 : (0 : Int) ≤ x.f1 := by omega
    simp [h1, h2]
  · simp [h1]
theorem kind_six {x : S36} (h : stepB 0 x = true) (h1 : x.f0 ≠ 1) (h2 : x.f0 ≠ 2) (h3 : x.f0 ≠ 3) (h4 : x.f0 ≠ 4) (h5 : x.f0 ≠ 5) : x.f0 = 6 := by
  have := step_kind h
  omega
theorem refvalid_loop (l : List S36) (hl : l.length ≤ 1000) : ∀ (d i : Nat) (p li : Int) (n : Bool) (last : Int), l.length - i = d → i ≤ l.length → 0 ≤ p → p ≤ 1000000000 → 0 ≤ li → li ≤ 1000000000 → 0 ≤ last →
    (i = 0 → last = 0) → (0 < i → last = (rd_T36 l ((i : Int) - 1)).f1) → Ev (fun k => cohousingref32_Valid.l0 k l p li n i) (goodL p li n last (l.drop i))
  | 0, i, p, li, n, last, hd, hi, hp, hp1, hli, hl1, h0, hz, hs => by
    obtain rfl : i = l.length := by omega
    rw [List.drop_length]
    refine Ev.ret fun k => ?_
    simp only [cohousingref32_Valid.l0]
    rw [if_neg (by omega)]
    rfl
  | d + 1, i, p, li, n, last, hd, hi, hp, hp1, hli, hl1, h0, hz, hs => by
    have hlt : i < l.length := by omega
    have hrd := rd36 hlt
    rw [List.drop_eq_getElem_cons hlt]
    have hw : wrap64 ((i : Int) + 1) = ((i + 1 : Nat) : Int) := wrapN i (by omega)
    have IH := fun p' li' n' (h1 : 0 ≤ p') h2 h3 h4 (h5 : 0 ≤ l[i].f1) => refvalid_loop l hl d (i + 1) p' li' n' l[i].f1 (by omega) (by omega) h1 h2 h3 h4 h5 (fun h => by omega) (fun _ => by
      rw [show (((i + 1 : Nat) : Int) - 1) = (i : Int) by omega, hrd])
    generalize l[i] = x at hrd IH ⊢
    have J2 : ∀ p' li' n', 0 ≤ p' → -1000000000 ≤ li' → 0 ≤ x.f1 → Ev (fun k => cohousingref32_Valid.j2 k l p' li' n' i) (decide (p' ≤ 1000000000) && (decide (0 ≤ li') && decide (li' ≤ 1000000000)) && goodL p' li' n' x.f1 (l.drop (i + 1))) := by
      intro p' li' n' h1 h2 h3
      by_cases q1 : p' ≤ 1000000000
      · by_cases q2 : li' ≤ 1000000000
        · by_cases q3 : 0 ≤ li'
          · rw [decide_eq_true q1, decide_eq_true q2, decide_eq_true q3, Bool.true_and, Bool.true_and, Bool.true_and]
            refine Ev.step (fun k => ?_) (IH p' li' n' h1 q1 q3 q2 h3)
            simp only [cohousingref32_Valid.j2]
            rw [amt_f, amt_f, obs, obs, show amtB p' = true by unfold amtB; simp; omega, show amtB li' = true by unfold amtB; simp; omega, if_pos rfl, if_pos rfl, if_neg (by omega), hw]
          · rw [decide_eq_false q3, Bool.false_and, Bool.and_false, Bool.false_and]
            refine Ev.ret fun k => ?_
            simp only [cohousingref32_Valid.j2]
            rw [amt_f, amt_f, obs, obs, show amtB p' = true by unfold amtB; simp; omega, show amtB li' = true by unfold amtB; simp; omega, if_pos rfl, if_pos rfl, if_pos (by omega)]
        · rw [decide_eq_false q2, Bool.and_false, Bool.and_false, Bool.false_and]
          refine Ev.ret fun k => ?_
          simp only [cohousingref32_Valid.j2]
          rw [amt_f, amt_f, obs, obs, show amtB p' = true by unfold amtB; simp; omega, show amtB li' = false by unfold amtB; simp; omega, if_pos rfl, if_neg (by simp)]
      · rw [decide_eq_false q1, Bool.false_and, Bool.false_and]
        refine Ev.ret fun k => ?_
        simp only [cohousingref32_Valid.j2]
        rw [amt_f, amt_f, obs, obs, show amtB p' = false by unfold amtB; simp; omega, if_neg (by simp)]
    have J1t : Ev (fun k => cohousingref32_Valid.j1 k l p li n i true) false := Ev.ret fun k => by
      simp only [cohousingref32_Valid.j1]
      rw [if_pos trivial]
    have J1 : stepB 0 x = true → Ev (fun k => cohousingref32_Valid.j1 k l p li n i false) (mayB p li n x && goodL (nP p x) (nL li x) (nN n x) x.f1 (l.drop (i + 1))) := by
      intro hsx
      have hx0 := (step_days hsx).1
      have hk := step_kind hsx
      by_cases k1 : x.f0 = 1
      · cases n with
        | true =>
          have e : mayB p li true x = false := by simp [mayB, k1]
          rw [e, Bool.false_and]
          refine Ev.ret fun k => ?_
          simp only [cohousingref32_Valid.j1]
          rw [if_neg (by simp), if_pos (by omega), if_pos (by omega), hrd, if_pos k1, if_pos trivial]
        | false =>
          have hb : 1 ≤ x.f2 ∧ x.f2 ≤ 1000000000 := by omega
          have h := J2 (p + x.f2) li false (by omega) (by omega) hx0
          rw [show (decide (p + x.f2 ≤ 1000000000) && (decide (0 ≤ li) && decide (li ≤ 1000000000))) = mayB p li false x by simp [mayB, k1, hli, hl1]] at h
          rw [show nP p x = p + x.f2 by simp [nP, k1], show nL li x = li by simp [nL, k1], show nN false x = false by simp [nN, k1]]
          refine Ev.step (fun k => ?_) h
          simp only [cohousingref32_Valid.j1]
          rw [if_neg (by simp), if_pos (by omega), if_pos (by omega), hrd, if_pos k1, if_neg (by simp), IntWalk.wrap64_in _ (by omega)]
      by_cases k4 : x.f0 = 4
      · have hb : 1 ≤ x.f2 ∧ x.f2 ≤ 1000000000 := by omega
        have h := J2 p (li + x.f2) n (by omega) (by omega) hx0
        rw [show (decide (p ≤ 1000000000) && (decide (0 ≤ li + x.f2) && decide (li + x.f2 ≤ 1000000000))) = mayB p li n x by
          have : (0 : Int) ≤ li + x.f2 := by omega
          simp [mayB, k4, hp1, this]] at h
        rw [show nP p x = p by simp [nP, k4], show nL li x = li + x.f2 by simp [nL, k4], show nN n x = n by simp [nN, k4]]
        refine Ev.step (fun k => ?_) h
        simp only [cohousingref32_Valid.j1]
        rw [if_neg (by simp), if_pos (by omega), if_pos (by omega), hrd, if_neg k1, if_pos k4, IntWalk.wrap64_in _ (by omega)]
      by_cases k5 : x.f0 = 5
      · have hb : 1 ≤ x.f2 ∧ x.f2 ≤ 1000000000 := by omega
        have h := J2 p (li - x.f2) n (by omega) (by omega) hx0
        rw [show (decide (p ≤ 1000000000) && (decide (0 ≤ li - x.f2) && decide (li - x.f2 ≤ 1000000000))) = mayB p li n x by
          have : li - x.f2 ≤ 1000000000 := by omega
          simp [mayB, k5, hp1, this]] at h
        rw [show nP p x = p by simp [nP, k5], show nL li x = li - x.f2 by simp [nL, k5], show nN n x = n by simp [nN, k5]]
        refine Ev.step (fun k => ?_) h
        simp only [cohousingref32_Valid.j1]
        rw [if_neg (by simp), if_pos (by omega), if_pos (by omega), hrd, if_neg k1, if_neg k4, if_pos k5, IntWalk.wrap64_in _ (by omega)]
      by_cases k6 : x.f0 = 6
      · cases n with
        | true =>
          have e : mayB p li true x = false := by simp [mayB, k6]
          rw [e, Bool.false_and]
          refine Ev.ret fun k => ?_
          simp only [cohousingref32_Valid.j1]
          rw [if_neg (by simp), if_pos (by omega), if_pos (by omega), hrd, if_neg k1, if_neg k4, if_neg k5, if_pos k6, if_pos trivial]
        | false =>
          have h := J2 p li true (by omega) (by omega) hx0
          rw [show (decide (p ≤ 1000000000) && (decide (0 ≤ li) && decide (li ≤ 1000000000))) = mayB p li false x by simp [mayB, k6, hli, hl1, hp1]] at h
          rw [show nP p x = p by simp [nP, k6], show nL li x = li by simp [nL, k6], show nN false x = true by simp [nN, k6]]
          refine Ev.step (fun k => ?_) h
          simp only [cohousingref32_Valid.j1]
          rw [if_neg (by simp), if_pos (by omega), if_pos (by omega), hrd, if_neg k1, if_neg k4, if_neg k5, if_pos k6, if_neg (by simp)]
      · have h := J2 p li n (by omega) (by omega) hx0
        rw [show (decide (p ≤ 1000000000) && (decide (0 ≤ li) && decide (li ≤ 1000000000))) = mayB p li n x by simp [mayB, k1, k4, k5, k6, hli, hl1, hp1]] at h
        rw [show nP p x = p by simp [nP, k1], show nL li x = li by simp [nL, k4, k5], show nN n x = n by simp [nN, k6]]
        refine Ev.step (fun k => ?_) h
        simp only [cohousingref32_Valid.j1]
        rw [if_neg (by simp), if_pos (by omega), if_pos (by omega), hrd, if_neg k1, if_neg k4, if_neg k5, if_neg k6]
    have hstep := refstep_ev x
    unfold goodL
    rw [step_last h0]
    cases hsx : stepB 0 x with
    | false =>
      rw [hsx] at hstep
      simp only [Bool.false_and]
      refine Ev.stepE (fun k => (cohousingref32_step.f k x.f0 x.f1 x.f2).bind fun t160 => (if t160 = true then (if (i : Int) > 0 then (if 0 ≤ (wrap64 ((i : Int) - 1)) then (if (wrap64 ((i : Int) - 1)) < (l.length : Int) then (cohousingref32_Valid.j1 k l p li n i (decide (x.f1 < ((rd_T36 l (wrap64 ((i : Int) - 1))).f1)))) else (none)) else (none)) else (cohousingref32_Valid.j1 k l p li n i false)) else (cohousingref32_Valid.j1 k l p li n i true))) (fun k => ?_) ?_
      · simp only [cohousingref32_Valid.l0]
        rw [if_pos (by omega), if_pos (by omega), hrd]
      · refine Ev.bind hstep ?_
        refine Ev.congr (fun k => ?_) J1t
        rw [if_neg (by simp)]
    | true =>
      rw [hsx] at hstep
      have hx0 := (step_days hsx).1
      simp only [Bool.true_and]
      refine Ev.stepE (fun k => (cohousingref32_step.f k x.f0 x.f1 x.f2).bind fun t160 => (if t160 = true then (if (i : Int) > 0 then (if 0 ≤ (wrap64 ((i : Int) - 1)) then (if (wrap64 ((i : Int) - 1)) < (l.length : Int) then (cohousingref32_Valid.j1 k l p li n i (decide (x.f1 < ((rd_T36 l (wrap64 ((i : Int) - 1))).f1)))) else (none)) else (none)) else (cohousingref32_Valid.j1 k l p li n i false)) else (cohousingref32_Valid.j1 k l p li n i true))) (fun k => ?_) ?_
      · simp only [cohousingref32_Valid.l0]
        rw [if_pos (by omega), if_pos (by omega), hrd]
      · refine Ev.bind hstep ?_
        refine Ev.congr (f := fun k => cohousingref32_Valid.j1 k l p li n i (decide (x.f1 < last))) (fun k => ?_) ?_
        · rw [if_pos rfl]
          by_cases hi0 : i = 0
          · subst hi0
            rw [if_neg (by omega), hz rfl, decide_eq_false (by omega)]
          · rw [if_pos (by omega), IntWalk.wrap64_in ((i : Int) - 1) (by omega), if_pos (by omega), if_pos (by omega), ← hs (by omega)]
        · by_cases hlast : last ≤ x.f1
          · rw [decide_eq_true hlast, decide_eq_false (show ¬ x.f1 < last by omega), Bool.true_and]
            exact J1 hsx
          · rw [decide_eq_false hlast, decide_eq_true (show x.f1 < last by omega), Bool.false_and, Bool.false_and]
            exact J1t
theorem refvalid_ev (l : List S36) (hl : l.length ≤ 9223372036854775807) : Ev (fun k => cohousingref32_Valid.f k l) (validV l) := by
  rw [validV_good]
  by_cases h : l.length ≤ 1000
  · rw [decide_eq_true h, Bool.and_true]
    refine Ev.congr (fun k => ?_) (refvalid_loop l h _ 0 0 0 false 0 rfl (by omega) (by omega) (by omega) (by omega) (by omega) (by omega) (fun _ => rfl) (fun h => by omega))
    unfold cohousingref32_Valid.f
    rw [if_neg (by omega)]
    rfl
  · rw [decide_eq_false h, Bool.and_false]
    refine ⟨0, fun k _ => ?_⟩
    show cohousingref32_Valid.f k l = some false
    unfold cohousingref32_Valid.f
    rw [if_pos (by omega)]
end Go.Proofs.YtdhnojfpgpjabaaDoor.P
