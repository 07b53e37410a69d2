/- Chapter 32, pure: the stretches of valid steps, and the account, in plain words. -/
import Derived.Test.YtdhnojfpgpjabaaDoorPcB
import Derived.Test.YtdhnojfpgpjabaaDoorXhead32
import Derived.Test.YtdhnojfpgpjabaaDoorPx9
import Derived.Test.YtdhnojfpgpjabaaDoorPx6
import Derived.KernelRfl
set_option linter.unusedSimpArgs false
set_option linter.unusedVariables false
namespace Go.Proofs.YtdhnojfpgpjabaaDoor.P
open Go Go.RowKit Go.Proofs.YtdhnojfpgpjabaaDoorW.PrintWords Go.Proofs.YtdhnojfpgpjabaaDoorW.PrintLast Go.Proofs.YtdhnojfpgpjabaaDoorW.PrintMore

def takeX (b : Bk) (x : S36) : Bk := ⟨nP b.paid x, nL b.lien x, if x.f0 = 2 then x.f2 else b.price, if x.f0 = 3 then x.f2 else b.rate, nN b.notice x⟩
/-- A payment, or a rate. -/
def cutB (x : S36) : Bool := x.f0 == 1 || x.f0 == 3
def strX (day : Int) : Bk → Int → List S36 → List (Int × Bk)
  | b, from_, [] => [(day - from_, b)]
  | b, from_, x :: r => if day < x.f1 then [(day - from_, b)] else if cutB x = true then (x.f1 - from_, b) :: strX day (takeX b x) x.f1 r else strX day (takeX b x) from_ r
/-- The book behind the steps up to a day. -/
def endX (day : Int) : Bk → List S36 → Bk
  | b, [] => b
  | b, x :: r => if day < x.f1 then b else endX day (takeX b x) r
/-- A book in its bounds. -/
structure BkOk (b : Bk) : Prop where
  p0 : 0 ≤ b.paid
  p1 : b.paid ≤ 1000000000
  l0 : 0 ≤ b.lien
  l1 : b.lien ≤ 1000000000
  r0 : 0 ≤ b.rate
  r1 : b.rate ≤ 10000
  v0 : 0 ≤ b.price
  v1 : b.price ≤ 100000
theorem bk1_ok : BkOk bk1 := ⟨by decide, by decide, by decide, by decide, by decide, by decide, by decide, by decide⟩
/-- Steps that may follow a book. -/
def GoodX (b : Bk) (last : Int) (l : List S36) : Prop := goodL b.paid b.lien b.notice last l = true
theorem goodX_cons {b : Bk} {last : Int} {x : S36} {r : List S36} : GoodX b last (x :: r) ↔ stepB last x = true ∧ mayB b.paid b.lien b.notice x = true ∧ GoodX (takeX b x) x.f1 r := goodL_cons
theorem takeX_ok {b : Bk} (h : BkOk b) {last : Int} {x : S36} (hs : stepB last x = true) (hm : mayB b.paid b.lien b.notice x = true) : BkOk (takeX b x) := by
  obtain ⟨h1, h2, h3, h4⟩ := may_bounds h.p0 h.p1 h.l0 h.l1 hs hm
  have hk := step_kind hs
  refine ⟨h1, h2, h3, h4, ?_, ?_, ?_, ?_⟩
  · show 0 ≤ (if x.f0 = 3 then x.f2 else b.rate)
    split
    · omega
    · exact h.r0
  · show (if x.f0 = 3 then x.f2 else b.rate) ≤ 10000
    split
    · omega
    · exact h.r1
  · show 0 ≤ (if x.f0 = 2 then x.f2 else b.price)
    split
    · omega
    · exact h.v0
  · show (if x.f0 = 2 then x.f2 else b.price) ≤ 100000
    split
    · omega
    · exact h.v1
theorem takeV_x {b : Bk} (h : BkOk b) {last : Int} {x : S36} (hs : stepB last x = true) : (takeV b x.f0 x.f2).1 = takeX b x := by
  obtain ⟨_, h2, h3, h4⟩ := take_good h.p0 h.p1 h.l0 h.l1 hs
  have h5 : (takeV b x.f0 x.f2).1.price = if x.f0 = 2 then x.f2 else b.price := by
    rcases step_kind hs with ⟨e, _⟩ | ⟨e, _⟩ | ⟨e, _⟩ | ⟨e, _⟩ | ⟨e, _⟩ | ⟨e, _⟩ <;> simp [takeV, e]
  have h6 : (takeV b x.f0 x.f2).1.rate = if x.f0 = 3 then x.f2 else b.rate := by
    rcases step_kind hs with ⟨e, _⟩ | ⟨e, _⟩ | ⟨e, _⟩ | ⟨e, _⟩ | ⟨e, _⟩ | ⟨e, _⟩ <;> simp [takeV, e]
  unfold takeX
  rw [← h2, ← h3, ← h4, ← h5, ← h6]
theorem strL_x (day : Int) (hd : day ≤ 36524) : ∀ (l : List S36) (b : Bk) (from_ last : Int), BkOk b → GoodX b last l → 0 ≤ from_ → from_ ≤ last → 0 ≤ day → from_ ≤ 36524 → strL day b from_ l = strX day b from_ l
  | [], b, from_, last, hb, hg, h0, h1, h2, h3 => by
    unfold strL strX
    rw [IntWalk.wrap64_in _ (by omega)]
  | x :: r, b, from_, last, hb, hg, h0, h1, h2, h3 => by
    obtain ⟨hs, hm, hr⟩ := goodX_cons.1 hg
    obtain ⟨d1, d2⟩ := step_days hs
    unfold strL strX
    rw [takeV_x hb hs, IntWalk.wrap64_in (day - from_) (by omega), IntWalk.wrap64_in (x.f1 - from_) (by omega)]
    have ht := takeX_ok hb hs hm
    rw [strL_x day hd r _ x.f1 x.f1 ht hr (by omega) (by omega) h2 d2, strL_x day hd r _ from_ x.f1 ht hr h0 (by omega) h2 h3]
    rfl
theorem strX_ok (day : Int) (hd : day ≤ 36524) : ∀ (l : List S36) (b : Bk) (from_ last : Int), BkOk b → GoodX b last l → 0 ≤ from_ → from_ ≤ last → from_ ≤ day → ∀ x ∈ strX day b from_ l, ItOk x
  | [], b, from_, last, hb, hg, h0, h1, h2, y, hy => by
    simp only [strX, List.mem_singleton] at hy
    subst hy
    exact ⟨by show 0 ≤ day - from_; omega, by show day - from_ ≤ 36524; omega, hb.p0, hb.p1, hb.r0, hb.r1, hb.v0, hb.v1⟩
  | x :: r, b, from_, last, hb, hg, h0, h1, h2, y, hy => by
    obtain ⟨hs, hm, hr⟩ := goodX_cons.1 hg
    obtain ⟨d1, d2⟩ := step_days hs
    have ht := takeX_ok hb hs hm
    unfold strX at hy
    split at hy
    · simp only [List.mem_singleton] at hy
      subst hy
      exact ⟨by show 0 ≤ day - from_; omega, by show day - from_ ≤ 36524; omega, hb.p0, hb.p1, hb.r0, hb.r1, hb.v0, hb.v1⟩
    · split at hy
      · rcases List.mem_cons.1 hy with rfl | hy
        · exact ⟨by show 0 ≤ x.f1 - from_; omega, by show x.f1 - from_ ≤ 36524; omega, hb.p0, hb.p1, hb.r0, hb.r1, hb.v0, hb.v1⟩
        · exact strX_ok day hd r _ x.f1 x.f1 ht hr (by omega) (by omega) (by omega) y hy
      · exact strX_ok day hd r _ from_ x.f1 ht hr h0 (by omega) h2 y hy
theorem strX_ne (day : Int) : ∀ (l : List S36) (b : Bk) (from_ : Int), strX day b from_ l ≠ []
  | [], b, from_ => by simp [strX]
  | x :: r, b, from_ => by
    unfold strX
    split
    · simp
    · split
      · simp
      · exact strX_ne day r _ _
theorem strX_last (day : Int) : ∀ (l : List S36) (b : Bk) (from_ : Int), ((strX day b from_ l).getLast (strX_ne day l b from_)).2 = endX day b l
  | [], b, from_ => rfl
  | x :: r, b, from_ => by
    by_cases h : day < x.f1
    · have e : strX day b from_ (x :: r) = [(day - from_, b)] := by rw [strX, if_pos h]
      simp only [e, endX, if_pos h]
      rfl
    · by_cases hc : cutB x = true
      · have e : strX day b from_ (x :: r) = (x.f1 - from_, b) :: strX day (takeX b x) x.f1 r := by rw [strX, if_neg h, if_pos hc]
        simp only [e, endX, if_neg h, List.getLast_cons (strX_ne day r _ _)]
        exact strX_last day r _ _
      · have e : strX day b from_ (x :: r) = strX day (takeX b x) from_ r := by rw [strX, if_neg h, if_neg hc]
        simp only [e, endX, if_neg h]
        exact strX_last day r _ _
theorem endX_ok (day : Int) : ∀ (l : List S36) (b : Bk) (last : Int), BkOk b → GoodX b last l → BkOk (endX day b l)
  | [], b, last, hb, hg => hb
  | x :: r, b, last, hb, hg => by
    obtain ⟨hs, hm, hr⟩ := goodX_cons.1 hg
    unfold endX
    split
    · exact hb
    · exact endX_ok day r _ x.f1 (takeX_ok hb hs hm) hr

/-! The account of valid steps. -/
def intV (l : List S36) (day : Int) : Nat := sumI (strX day bk1 0 l)
def accV (shares : Int) (l : List S36) (day : Int) : Acc := ⟨(endX day bk1 l).paid, shares * (endX day bk1 l).price, (intV l day : Nat), (endX day bk1 l).lien⟩
def stateV (shares : Int) (l : List S36) (day : Int) : Int × Int × Int × Int × Int × Int := if intV l day ≤ 1000000000 then endV (some (accV shares l day)) else endV none
theorem valid_good {l : List S36} (h : validV l = true) : GoodX bk1 0 l ∧ l.length ≤ 1000 := by
  rw [validV_good, Bool.and_eq_true, decide_eq_true_eq] at h
  exact h
theorem valid_of {l : List S36} (h : GoodX bk1 0 l) (h2 : l.length ≤ 1000) : validV l = true := by
  rw [validV_good, Bool.and_eq_true, decide_eq_true_eq]
  exact ⟨h, h2⟩
theorem State_ev (shares : Int) (l : List S36) (day : Int) (hv : validV l = true) (s0 : 1 ≤ shares) (s1 : shares ≤ 1000) (d0 : 0 ≤ day) (d1 : day ≤ 36524) : Ev (fun k => capital_State.f k shares l day) (stateV shares l day) := by
  obtain ⟨hg, hl⟩ := valid_good hv
  have hb : badB shares day l = false := by
    unfold badB
    rw [hv, decide_eq_false (by omega), decide_eq_false (by omega), decide_eq_false (by omega), decide_eq_false (by omega)]
    rfl
  have hs : strV l day = strX day bk1 0 l := strL_x day d1 l bk1 0 0 bk1_ok hg (by omega) (by omega) d0 (by omega)
  have ho := stO_ev shares (by omega) s1 (strX day bk1 0 l) 0 acc0 (strX_ok day d1 l bk1 0 0 bk1_ok hg (by omega) (by omega) d0) (by omega) rfl
  rw [stV_eq shares _ 0 acc0 (strX_ne day l bk1 0) (by omega), strX_last, Nat.zero_add] at ho
  refine Ev.congr (f := fun k => (stO k shares (strX day bk1 0 l) acc0).bind fun o => some (endV o)) (fun k => ?_) (Ev.bind ho ?_)
  · unfold capital_State.f
    rw [if_neg (by simp [hb]), hs]
    cases stO k shares (strX day bk1 0 l) acc0 <;> rfl
  · unfold stateV
    by_cases h : intV l day ≤ 1000000000
    · rw [if_pos h]
      refine Ev.congr (fun k => ?_) (Ev.now _)
      exact congrArg (fun o => some (endV o)) (if_pos h)
    · rw [if_neg h]
      refine Ev.congr (fun k => ?_) (Ev.now _)
      exact congrArg (fun o => some (endV o)) (if_neg h)
theorem State_bad_ev (shares : Int) (l : List S36) (day : Int) (h : badB shares day l = true) : Ev (fun k => capital_State.f k shares l day) (0, 0, 0, 0, 0, 1) := by
  refine ⟨0, fun k _ => ?_⟩
  show capital_State.f k shares l day = _
  unfold capital_State.f
  rw [if_pos h]
theorem due_eq (shares : Int) (l : List S36) (day : Int) (hv : validV l = true) (s0 : 1 ≤ shares) (s1 : shares ≤ 1000) (hi : intV l day ≤ 1000000000) :
    dueV (accV shares l day) = max 0 (min (accV shares l day).paid (accV shares l day).value + (accV shares l day).interest - (accV shares l day).lien) ∧ 0 ≤ (accV shares l day).value ∧ (accV shares l day).value ≤ 100000000 := by
  have hb := endX_ok day l bk1 0 bk1_ok (valid_good hv).1
  have hp0 := hb.p0
  have hp1 := hb.p1
  have hl0 := hb.l0
  have hl1 := hb.l1
  have hv0 : 0 ≤ shares * (endX day bk1 l).price := Int.mul_nonneg (by omega) hb.v0
  have hv1 : shares * (endX day bk1 l).price ≤ 1000 * 100000 := Int.mul_le_mul s1 hb.v1 hb.v0 (by decide)
  unfold dueV accV
  simp only
  generalize shares * (endX day bk1 l).price = v at *
  refine ⟨?_, hv0, by omega⟩
  rw [IntWalk.wrap64_in (_ + _) (by omega), IntWalk.wrap64_in _ (by omega)]
end Go.Proofs.YtdhnojfpgpjabaaDoor.P
/- Chapter 32, pure: what is redeemed; the head; the small functions of the laws. -/
set_option linter.unusedSimpArgs false
set_option linter.unusedVariables false
namespace Go.Proofs.YtdhnojfpgpjabaaDoor.P
open Go Go.RowKit Go.Proofs.YtdhnojfpgpjabaaDoorW.PrintWords Go.Proofs.YtdhnojfpgpjabaaDoorW.PrintLast Go.Proofs.YtdhnojfpgpjabaaDoorW.PrintMore

theorem good_days : ∀ (l : List S36) (b : Bk) (last : Int), GoodX b last l → ∀ x ∈ l, last ≤ x.f1 ∧ x.f1 ≤ 36524 ∧ stepB last x = true
  | [], b, last, hg, x, hx => by simp at hx
  | y :: r, b, last, hg, x, hx => by
    obtain ⟨hs, hm, hr⟩ := goodX_cons.1 hg
    obtain ⟨d1, d2⟩ := step_days hs
    rcases List.mem_cons.1 hx with rfl | hx
    · exact ⟨d1, d2, hs⟩
    · obtain ⟨h1, h2, h3⟩ := good_days r _ y.f1 hr x hx
      refine ⟨by omega, h2, ?_⟩
      unfold stepB at h3 ⊢
      rw [decide_eq_true (show last ≤ x.f1 by omega)]
      rw [decide_eq_true h1] at h3
      exact h3
/-- The end of Redeem. -/
def endR (s : Int × Int × Int × Int × Int × Int) (day : Int) : Int × Int × Int := if s.2.2.2.2.2 = 0 then (s.2.2.2.2.1, day, 0) else (0, 0, s.2.2.2.2.2)
def redL (shares : Int) (l : List S36) (wait : Int) : List S36 → Int × Int × Int
  | [] => (0, 0, 6)
  | x :: r => if x.f0 = 6 then (if x.f1 + wait > 36524 then (0, 0, 3) else endR (stateV shares l (x.f1 + wait)) (x.f1 + wait)) else redL shares l wait r
theorem redeem_loop (shares : Int) (l : List S36) (wait : Int) (hv : validV l = true) (s0 : 1 ≤ shares) (s1 : shares ≤ 1000) (w0 : 0 ≤ wait) (w1 : wait ≤ 1000) : ∀ (d i : Nat), l.length - i = d → i ≤ l.length →
    Ev (fun k => capital_Redeem.l0 k shares l wait l (l.length : Int) i) (redL shares l wait (l.drop i))
  | 0, i, hd, hi => by
    obtain rfl : i = l.length := by omega
    rw [List.drop_length]
    refine Ev.ret fun k => ?_
    simp only [capital_Redeem.l0]
    rw [if_neg (by omega)]
    rfl
  | d + 1, i, hd, hi => by
    have hlt : i < l.length := by omega
    have hrd := rd36 hlt
    have hlen := (valid_good hv).2
    have hd2 := good_days l bk1 0 (valid_good hv).1 l[i] (List.getElem_mem hlt)
    have ih := redeem_loop shares l wait hv s0 s1 w0 w1 d (i + 1) (by omega) (by omega)
    rw [List.drop_eq_getElem_cons hlt]
    generalize l[i] = x at *
    unfold redL
    by_cases h6 : x.f0 = 6
    · rw [if_pos h6]
      by_cases hm : x.f1 + wait > 36524
      · rw [if_pos hm]
        refine Ev.ret fun k => ?_
        simp only [capital_Redeem.l0]
        rw [if_pos (by omega), if_pos (by omega), if_pos (by omega), hrd, if_pos h6, IntWalk.wrap64_in _ (by omega), if_pos hm]
      · rw [if_neg hm]
        refine Ev.stepE (fun k => (capital_State.f k shares l (x.f1 + wait)).bind fun bt117 => (if bt117.2.2.2.2.2 = 0 then (some (bt117.2.2.2.2.1, x.f1 + wait, 0)) else (some (0, 0, bt117.2.2.2.2.2)))) (fun k => ?_) ?_
        · simp only [capital_Redeem.l0]
          rw [if_pos (by omega), if_pos (by omega), if_pos (by omega), hrd, if_pos h6, IntWalk.wrap64_in _ (by omega), if_neg hm]
        · refine Ev.bind (State_ev shares l (x.f1 + wait) hv s0 s1 (by omega) (by omega)) ?_
          refine ⟨0, fun k _ => ?_⟩
          by_cases he : (stateV shares l (x.f1 + wait)).2.2.2.2.2 = 0
          · simp [endR, he]
          · simp [endR, he]
    · rw [if_neg h6]
      refine Ev.step (fun k => ?_) ih
      simp only [capital_Redeem.l0]
      rw [if_pos (by omega), if_pos (by omega), if_pos (by omega), hrd, if_neg h6, wrapN i (by omega)]
theorem Redeem_ev (shares : Int) (l : List S36) (wait : Int) (hv : validV l = true) (s0 : 1 ≤ shares) (s1 : shares ≤ 1000) (w0 : 0 ≤ wait) (w1 : wait ≤ 1000) : Ev (fun k => capital_Redeem.f k shares l wait) (redL shares l wait l) := by
  have h := redeem_loop shares l wait hv s0 s1 w0 w1 _ 0 rfl (by omega)
  refine Ev.congr (f := fun k => capital_Redeem.j0 k shares l wait false) (fun k => ?_) (Ev.step (fun k => ?_) h)
  · unfold capital_Redeem.f capital_Valid.f
    rw [if_neg (by omega), if_neg (by omega), if_neg (by omega), if_neg (by omega), obs, hv]
    rfl
  · simp only [capital_Redeem.j0]
    rw [if_neg (by simp)]
    rfl
/-- Where its arguments are not as asked. -/
def badR (shares wait : Int) (l : List S36) : Bool := decide (shares < 1) || decide (1000 < shares) || decide (wait < 0) || decide (1000 < wait) || !validV l
theorem Redeem_bad_ev (shares : Int) (l : List S36) (wait : Int) (h : badR shares wait l = true) : Ev (fun k => capital_Redeem.f k shares l wait) (0, 0, 1) := by
  have hj : Ev (fun k => capital_Redeem.j0 k shares l wait true) (0, 0, 1) := Ev.ret fun k => by
    simp only [capital_Redeem.j0]
    rw [if_pos trivial]
  refine Ev.congr (fun k => ?_) hj
  unfold capital_Redeem.f capital_Valid.f
  unfold badR at h
  by_cases h1 : shares < 1
  · rw [if_pos h1]
  rw [if_neg h1]
  by_cases h2 : shares > 1000
  · rw [if_pos h2]
  rw [if_neg h2]
  by_cases h3 : wait < 0
  · rw [if_pos h3]
  rw [if_neg h3]
  by_cases h4 : wait > 1000
  · rw [if_pos h4]
  rw [if_neg h4, obs]
  rw [decide_eq_false h1, decide_eq_false (show ¬ 1000 < shares by omega), decide_eq_false h3, decide_eq_false (show ¬ 1000 < wait by omega)] at h
  simp only [Bool.false_or] at h
  rw [h]

theorem ex_valid : validV exL = true := by kernel_rfl
theorem ex_valid2 : validV (exL ++ exM) = true := by kernel_rfl
theorem head_ev : Ev (fun k => cohousinglaw32_head.f k) true := by
  have h1 := State_ev 3 exL 73 ex_valid (by decide) (by decide) (by decide) (by decide)
  have h2 := State_ev 3 exL 100 ex_valid (by decide) (by decide) (by decide) (by decide)
  have h3 := Redeem_ev 3 (exL ++ exM) 0 ex_valid2 (by decide) (by decide) (by decide) (by decide)
  have h4 := Redeem_ev 3 exL 0 ex_valid (by decide) (by decide) (by decide) (by decide)
  rw [show stateV 3 exL 73 = (30000, 300, 300, 0, 600, 0) from by kernel_rfl] at h1
  rw [show stateV 3 exL 100 = (30000, 27000, 411, 0, 27411, 0) from by kernel_rfl] at h2
  rw [show redL 3 (exL ++ exM) 0 (exL ++ exM) = (27000, 100, 0) from by kernel_rfl] at h3
  rw [show redL 3 exL 0 exL = (0, 0, 6) from by kernel_rfl] at h4
  have h5 : Ev (fun _ => capital_Valid.f exL) true := ⟨0, fun _ _ => congrArg some ex_valid⟩
  refine Ev.bind h1 (Ev.bind h2 (Ev.bind h3 (Ev.bind h4 (Ev.bind h5 ?_))))
  rw [eq6_refl, eq6_refl, eq3_refl, eq3_refl]
  exact Ev.now _

theorem usable_ev (l : List S36) (hl : l.length ≤ 9223372036854775807) : Ev (fun k => cohousinglaw32_usable.f k l) (decide (l.length ≤ 60) && validV l) := by
  by_cases h : l.length ≤ 60
  · rw [decide_eq_true h, Bool.true_and]
    refine Ev.congr (f := fun k => (cohousingref32_Valid.f k l).bind fun t => some t) (fun k => ?_) (Ev.bind (refvalid_ev l hl) (Ev.now _))
    unfold cohousinglaw32_usable.f cohousingref32_Few.f
    rw [obs, decide_eq_true (show (l.length : Int) ≤ 60 by omega), if_pos rfl]
  · rw [decide_eq_false h, Bool.false_and]
    refine ⟨0, fun k _ => ?_⟩
    show cohousinglaw32_usable.f k l = _
    unfold cohousinglaw32_usable.f cohousingref32_Few.f
    rw [obs, decide_eq_false (show ¬ (l.length : Int) ≤ 60 by omega), if_neg (by simp)]
theorem count_f (n : Int) (h0 : 0 ≤ n) (h1 : n ≤ 65535) : cohousinglaw32_count.f n = some (1 + n % 1000) := by
  unfold cohousinglaw32_count.f
  rw [IntWalk.wrap64_in n (by omega), Int.tmod_eq_emod_of_nonneg h0, IntWalk.wrap64_in _ (by omega)]
theorem on_f (n : Int) (h0 : 0 ≤ n) (h1 : n ≤ 65535) : cohousinglaw32_on.f n = some (n % 36525) := by
  unfold cohousinglaw32_on.f
  rw [IntWalk.wrap64_in n (by omega), Int.tmod_eq_emod_of_nonneg h0]
theorem mx_eq (a b : Int) : mx a b = max a b := by unfold mx; omega
theorem mn_eq (a b : Int) : mn a b = min a b := by unfold mn; omega
/-- The state of valid steps, by cases. -/
theorem stateV_yes {shares : Int} {l : List S36} {day : Int} (h : (stateV shares l day).2.2.2.2.2 = 0) : intV l day ≤ 1000000000 ∧ amtB (dueV (accV shares l day)) = true ∧ stateV shares l day = ((accV shares l day).paid, (accV shares l day).value, (accV shares l day).interest, (accV shares l day).lien, dueV (accV shares l day), 0) := by
  unfold stateV at h ⊢
  by_cases hi : intV l day ≤ 1000000000
  · rw [if_pos hi] at h ⊢
    unfold endV at h ⊢
    by_cases ha : amtB (dueV (accV shares l day)) = true
    · simp only [ha, if_true]
      exact ⟨hi, trivial, trivial⟩
    · simp only [ha] at h
      exact absurd h (by simp)
  · rw [if_neg hi] at h
    exact absurd h (by decide)
theorem stateV_no {shares : Int} {l : List S36} {day : Int} (h : (stateV shares l day).2.2.2.2.2 ≠ 0) : stateV shares l day = (0, 0, 0, 0, 0, 3) := by
  unfold stateV at h ⊢
  by_cases hi : intV l day ≤ 1000000000
  · rw [if_pos hi] at h ⊢
    unfold endV at h ⊢
    by_cases ha : amtB (dueV (accV shares l day)) = true
    · simp only [ha, if_true] at h
      exact absurd rfl h
    · simp only [ha]
      rfl
  · rw [if_neg hi]
    rfl
end Go.Proofs.YtdhnojfpgpjabaaDoor.P
/- Chapter 32, pure: the stretches of a later day, of fewer steps. -/
set_option linter.unusedSimpArgs false
set_option linter.unusedVariables false
namespace Go.Proofs.YtdhnojfpgpjabaaDoor.P
open Go Go.RowKit Go.Proofs.YtdhnojfpgpjabaaDoorW.PrintWords Go.Proofs.YtdhnojfpgpjabaaDoorW.PrintLast Go.Proofs.YtdhnojfpgpjabaaDoorW.PrintMore

theorem rnd_mono {x y : Nat} (h : x ≤ y) : rnd x ≤ rnd y := by
  have h2 : 2 * x + 3650000 ≤ 2 * y + 3650000 := by omega
  unfold rnd
  exact Nat.div_le_div_right h2
theorem itI_mono {b : Bk} (hr : 0 ≤ b.rate) {m n : Int} (h : m ≤ n) : itI (m, b) ≤ itI (n, b) := by
  have h2 := Int.mul_le_mul_of_nonneg_left h hr
  have h3 : (b.rate * m).toNat ≤ (b.rate * n).toNat := by omega
  unfold itI
  exact rnd_mono (Nat.mul_le_mul_left b.paid.toNat h3)
theorem sumI_cons (x : Int × Bk) (r : List (Int × Bk)) : sumI (x :: r) = itI x + sumI r := by
  unfold sumI
  rw [List.map_cons, List.sum_cons]
theorem sumI_nil : sumI [] = 0 := by
  unfold sumI
  rw [List.map_nil, List.sum_nil]
theorem sumI_one (x : Int × Bk) : sumI [x] = itI x := by
  rw [sumI_cons, sumI_nil, Nat.add_zero]
/-- A step that cuts nothing changes no interest. -/
theorem noncut {b : Bk} {last : Int} {x : S36} (hs : stepB last x = true) (hc : ¬ cutB x = true) : (takeX b x).paid = b.paid ∧ (takeX b x).rate = b.rate := by
  have h1 : x.f0 ≠ 1 := fun h => hc (by simp [cutB, h])
  have h3 : x.f0 ≠ 3 := fun h => hc (by simp [cutB, h])
  exact ⟨by simp [takeX, nP, h1], by simp [takeX, h3]⟩
theorem itI_noncut {b : Bk} {last : Int} {x : S36} (hs : stepB last x = true) (hc : ¬ cutB x = true) (n : Int) : itI (n, takeX b x) = itI (n, b) := by
  obtain ⟨h1, h2⟩ := noncut (b := b) hs hc
  unfold itI
  simp only [h1, h2]
theorem sum_low (d2 d : Int) (h2 : d ≤ d2) : ∀ (l : List S36) (b : Bk) (from_ last : Int), BkOk b → GoodX b last l → d ≤ last → itI (d - from_, b) ≤ sumI (strX d2 b from_ l)
  | [], b, from_, last, hb, hg, hl => by
    rw [strX, sumI_one]
    exact itI_mono hb.r0 (by omega)
  | x :: r, b, from_, last, hb, hg, hl => by
    obtain ⟨hs, hm, hr⟩ := goodX_cons.1 hg
    obtain ⟨e1, e2⟩ := step_days hs
    rw [strX]
    split
    · rw [sumI_one]
      exact itI_mono hb.r0 (by omega)
    · split
      · rw [sumI_cons]
        exact Nat.le_trans (itI_mono hb.r0 (by omega)) (Nat.le_add_right _ _)
      · rename_i hc
        rw [← itI_noncut hs hc]
        exact sum_low d2 d h2 r _ from_ x.f1 (takeX_ok hb hs hm) hr (by omega)
theorem sum_mono (d1 d2 : Int) (h12 : d1 ≤ d2) : ∀ (l : List S36) (b : Bk) (from_ last : Int), BkOk b → GoodX b last l → sumI (strX d1 b from_ l) ≤ sumI (strX d2 b from_ l)
  | [], b, from_, last, hb, hg => by
    rw [strX, strX, sumI_one, sumI_one]
    exact itI_mono hb.r0 (by omega)
  | x :: r, b, from_, last, hb, hg => by
    obtain ⟨hs, hm, hr⟩ := goodX_cons.1 hg
    have ht := takeX_ok hb hs hm
    rw [strX, strX]
    by_cases q1 : d1 < x.f1
    · rw [if_pos q1, sumI_one]
      split
      · rw [sumI_one]
        exact itI_mono hb.r0 (by omega)
      · split
        · rw [sumI_cons]
          exact Nat.le_trans (itI_mono hb.r0 (by omega)) (Nat.le_add_right _ _)
        · rename_i hc
          rw [← itI_noncut hs hc]
          exact sum_low d2 d1 h12 r _ from_ x.f1 ht hr (by omega)
    · rw [if_neg q1, if_neg (show ¬ d2 < x.f1 by omega)]
      split
      · rw [sumI_cons, sumI_cons]
        exact Nat.add_le_add_left (sum_mono d1 d2 h12 r _ _ x.f1 ht hr) _
      · exact sum_mono d1 d2 h12 r _ _ x.f1 ht hr

theorem strX_take (day : Int) : ∀ (l : List S36) (n : Nat) (b : Bk) (from_ : Int), (∀ x, l[n]? = some x → day < x.f1) → strX day b from_ (l.take n) = strX day b from_ l
  | [], n, b, from_, h => by rw [List.take_nil]
  | x :: r, 0, b, from_, h => by
    rw [List.take_zero, strX, strX, if_pos (h x rfl)]
  | x :: r, n + 1, b, from_, h => by
    rw [List.take_succ_cons, strX, strX, strX_take day r n _ _ (fun y hy => h y (by simpa using hy)), strX_take day r n _ _ (fun y hy => h y (by simpa using hy))]
theorem endX_take (day : Int) : ∀ (l : List S36) (n : Nat) (b : Bk), (∀ x, l[n]? = some x → day < x.f1) → endX day b (l.take n) = endX day b l
  | [], n, b, h => by rw [List.take_nil]
  | x :: r, 0, b, h => by
    rw [List.take_zero, endX, endX, if_pos (h x rfl)]
  | x :: r, n + 1, b, h => by
    rw [List.take_succ_cons, endX, endX, endX_take day r n _ (fun y hy => h y (by simpa using hy))]
theorem good_take : ∀ (l : List S36) (n : Nat) (b : Bk) (last : Int), GoodX b last l → GoodX b last (l.take n)
  | [], n, b, last, h => by rw [List.take_nil]; exact h
  | x :: r, 0, b, last, h => by rw [List.take_zero]; exact rfl
  | x :: r, n + 1, b, last, h => by
    obtain ⟨hs, hm, hr⟩ := goodX_cons.1 h
    rw [List.take_succ_cons]
    exact goodX_cons.2 ⟨hs, hm, good_take r n _ _ hr⟩
theorem good_append : ∀ (l : List S36) (m : List S36) (b : Bk) (last : Int), GoodX b last (l ++ m) → GoodX b last l
  | [], m, b, last, h => rfl
  | x :: r, m, b, last, h => by
    obtain ⟨hs, hm, hr⟩ := goodX_cons.1 h
    exact goodX_cons.2 ⟨hs, hm, good_append r m _ _ hr⟩
theorem stateV_take (shares : Int) (l : List S36) (day : Int) (n : Nat) (h : ∀ x, l[n]? = some x → day < x.f1) : stateV shares (l.take n) day = stateV shares l day := by
  unfold stateV accV intV
  rw [strX_take day l n _ _ h, endX_take day l n _ h]
end Go.Proofs.YtdhnojfpgpjabaaDoor.P
