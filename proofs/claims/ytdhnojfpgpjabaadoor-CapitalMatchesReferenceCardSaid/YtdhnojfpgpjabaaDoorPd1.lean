/- Chapter 32, pure: the reference's account is that of the stretches. -/
import Derived.Test.YtdhnojfpgpjabaaDoorPcC
import Derived.Test.YtdhnojfpgpjabaaDoorPcD
import Derived.Test.YtdhnojfpgpjabaaDoorPx12
set_option linter.unusedSimpArgs false
set_option linter.unusedVariables false
namespace Go.Proofs.YtdhnojfpgpjabaaDoor.P
open Go Go.RowKit Go.Proofs.YtdhnojfpgpjabaaDoorW.PrintWords Go.Proofs.YtdhnojfpgpjabaaDoorW.PrintLast Go.Proofs.YtdhnojfpgpjabaaDoorW.PrintMore

theorem interest_ev {b : Bk} (hb : BkOk b) {n : Int} (h0 : 0 ≤ n) (h1 : n ≤ 36524) : Ev (fun k => cohousingref32_Interest.f k b.paid b.rate n) (scV (itI (n, b))) := by
  have t0 : 0 ≤ b.rate * n := Int.mul_nonneg hb.r0 h0
  have t1 : b.rate * n ≤ 10000 * 36524 := Int.mul_le_mul hb.r1 h1 h0 (by decide)
  have hp0 := hb.p0
  have hp1 := hb.p1
  have hs := refscale_ev b.paid.toNat (b.rate * n).toNat (by omega) (by omega)
  rw [Int.toNat_of_nonneg hp0] at hs
  have hg := gcd5_loop 3650000 3650000 (b.rate * n).toNat (Nat.le_refl _)
  have hr : Ev (fun k => cohousingref05_Reduce.f k (wrap64 (b.rate * n)) 3650000) ((((b.rate * n).toNat / Nat.gcd (b.rate * n).toNat 3650000 : Nat) : Int), ((3650000 / Nat.gcd (b.rate * n).toNat 3650000 : Nat) : Int)) := by
    have hgp : 0 < Nat.gcd (b.rate * n).toNat 3650000 := Nat.gcd_pos_of_pos_right _ (by decide)
    obtain ⟨b1, b2, b3, b4⟩ := low_bounds (b.rate * n).toNat (by omega)
    rw [IntWalk.wrap64_in _ (by omega)]
    rw [Int.toNat_of_nonneg t0] at hg
    have e0 : b.rate * n = (((b.rate * n).toNat : Nat) : Int) := (Int.toNat_of_nonneg t0).symm
    generalize hT : (b.rate * n).toNat = T at *
    rw [e0] at hg ⊢
    generalize Nat.gcd T 3650000 = g at *
    refine Ev.congr (f := fun k => (cohousingref05_gcd.l0 k (T : Int) ((3650000 : Nat) : Int)).bind fun t187 => (if t187 = 0 then none else (some (wrap64 (Int.tdiv (T : Int) t187), wrap64 (Int.tdiv 3650000 t187))))) (fun k => ?_) (Ev.bind hg ?_)
    · unfold cohousingref05_Reduce.f cohousingref05_gcd.f
      rw [if_neg (by omega)]
      rfl
    · refine Ev.congr (fun k => ?_) (Ev.now _)
      rw [if_neg (by omega), tdivN, wrapNat _ (by omega), show (3650000 : Int) = ((3650000 : Nat) : Int) from rfl, tdivN, wrapNat _ (by omega)]
  refine Ev.congr (f := fun k => (cohousingref05_Reduce.f k (wrap64 (b.rate * n)) 3650000).bind fun q => cohousingref02_Scale.f k b.paid q.1 q.2) (fun k => ?_) (Ev.bind hr hs)
  unfold cohousingref32_Interest.f
  cases cohousingref05_Reduce.f k (wrap64 (b.rate * n)) 3650000 with
  | none => rfl
  | some q =>
    simp only [obs]
    cases cohousingref02_Scale.f k b.paid q.1 q.2 <;> rfl
/-- One stretch of the reference's. -/
theorem ref_j3 (shares : Int) (l : List S36) (day : Int) {b : Bk} (hb : BkOk b) (from_ until_ V : Int) (i I : Nat) (fl : Bool) (R : Int × Int × Int × Int × Int × Int) (h0 : 0 ≤ until_ - from_) (h1 : until_ - from_ ≤ 36524) (hI : I ≤ 1000000000)
    (hy : I + itI (until_ - from_, b) ≤ 1000000000 → Ev (fun k => cohousingref32_state.j4 k shares l day b.rate until_ i fl b.paid V ((I + itI (until_ - from_, b) : Nat) : Int) b.lien 0) R) (hn : ¬ I + itI (until_ - from_, b) ≤ 1000000000 → R = (0, 0, 0, 0, 0, 3)) :
    Ev (fun k => cohousingref32_state.j3 k shares l day b.rate from_ i fl until_ b.paid V I b.lien 0) R := by
  have hi := interest_ev hb h0 h1
  generalize itI (until_ - from_, b) = q at *
  refine Ev.stepE (fun k => (cohousingref32_Interest.f k b.paid b.rate (until_ - from_)).bind fun bt199 => (if bt199.2 = 0 then (if amtB (wrap64 ((I : Int) + bt199.1)) = true then (cohousingref32_state.j4 k shares l day b.rate until_ i fl b.paid V (wrap64 ((I : Int) + bt199.1)) b.lien 0) else (some (0, 0, 0, 0, 0, 3))) else (some (0, 0, 0, 0, 0, 3)))) (fun k => ?_) (Ev.bind hi ?_)
  · simp only [cohousingref32_state.j3, amt_f, obs]
    rw [IntWalk.wrap64_in (until_ - from_) (by omega)]
  · unfold scV
    by_cases hq : q ≤ 1000000000
    · rw [if_pos hq]
      have e : wrap64 ((I : Int) + (q : Int)) = ((I + q : Nat) : Int) := by rw [show ((I : Int) + (q : Int)) = ((I + q : Nat) : Int) by omega, wrapNat _ (by omega)]
      by_cases hs : I + q ≤ 1000000000
      · refine Ev.congr (fun k => ?_) (hy hs)
        show (if (0 : Int) = 0 then (if amtB (wrap64 ((I : Int) + (q : Int))) = true then _ else _) else _) = _
        rw [if_pos rfl, e, amtN, decide_eq_true hs, if_pos rfl]
      · rw [hn hs]
        refine Ev.congr (f := fun _ => some (0, 0, 0, 0, 0, 3)) (fun k => ?_) (Ev.now _)
        show (if (0 : Int) = 0 then (if amtB (wrap64 ((I : Int) + (q : Int))) = true then _ else _) else _) = _
        rw [if_pos rfl, e, amtN, decide_eq_false hs, if_neg (by simp)]
    · rw [if_neg hq, hn (by omega)]
      refine Ev.congr (f := fun _ => some (0, 0, 0, 0, 0, 3)) (fun k => ?_) (Ev.now _)
      show (if (3 : Int) = 0 then _ else _) = _
      rw [if_neg (by omega)]
theorem ref_j4 (shares : Int) (l : List S36) (day : Int) (p V I lien r f : Int) (i : Nat) : Ev (fun k => cohousingref32_state.j4 k shares l day r f i true p V I lien 0) (endV (some ⟨p, V, I, lien⟩)) := by
  refine Ev.ret fun k => ?_
  simp only [cohousingref32_state.j4, amt_f, obs]
  rw [mx_eq, mn_eq, if_pos trivial]
  unfold endV dueV
  simp only
  split <;> rfl
theorem ref_fin (shares : Int) (l : List S36) (day : Int) (b : Bk) (hb : BkOk b) (from_ : Int) (i I : Nat) (h0 : 0 ≤ from_) (h1 : from_ ≤ day) (hd : day ≤ 36524) (hI : I ≤ 1000000000) :
    Ev (fun k => cohousingref32_state.j2 k shares l day b.rate from_ i true true b.paid (shares * b.price) I b.lien 0) (endV (stV shares [(day - from_, b)] I acc0)) := by
  refine Ev.stepE (fun k => cohousingref32_state.j3 k shares l day b.rate from_ i true day b.paid (shares * b.price) I b.lien 0) (fun k => ?_) (ref_j3 shares l day hb from_ day (shares * b.price) i I true _ (by omega) (by omega) hI (fun h => ?_) (fun h => ?_))
  · simp only [cohousingref32_state.j2]
    rw [if_pos trivial, if_pos trivial]
  · rw [stV, if_pos h, stV]
    exact ref_j4 _ _ _ _ _ _ _ _ _ _
  · rw [stV, if_neg h]
    rfl
theorem refstate_loop (shares : Int) (s0 : 0 ≤ shares) (s1 : shares ≤ 1000) (l : List S36) (hlen : l.length ≤ 1000) (day : Int) (hd : day ≤ 36524) : ∀ (d : Nat), ∀ (i : Nat) (b : Bk) (from_ last : Int) (I : Nat), l.length - i = d → i ≤ l.length → BkOk b → GoodX b last (l.drop i) → 0 ≤ from_ → from_ ≤ last → from_ ≤ day → I ≤ 1000000000 →
    Ev (fun k => cohousingref32_state.l0 k shares l day b.rate from_ i b.paid (shares * b.price) I b.lien 0) (endV (stV shares (strX day b from_ (l.drop i)) I acc0)) := by
  intro d
  induction d with
  | zero =>
    intro i b from_ last I hdd hi hb hg h0 h1 h2 hI
    obtain rfl : i = l.length := by omega
    rw [List.drop_length, strX]
    refine Ev.stepE (fun k => cohousingref32_state.j1 k shares l day b.rate from_ l.length true b.paid (shares * b.price) I b.lien 0) (fun k => ?_) (Ev.step (fun k => ?_) (ref_fin shares l day b hb from_ l.length I h0 h2 hd hI))
    · simp only [cohousingref32_state.l0]
      rw [if_pos (by omega), if_pos trivial]
    · simp only [cohousingref32_state.j1]
      rw [if_pos trivial]
  | succ d ihd =>
    intro i b from_ last I hdd hi hb hg h0 h1 h2 hI
    have hlt : i < l.length := by omega
    have hrd := rd36 hlt
    have ih := ihd (i + 1)
    clear ihd
    rw [List.drop_eq_getElem_cons hlt] at hg ⊢
    generalize l[i] = x at *
    obtain ⟨hst, hm, hr⟩ := goodX_cons.1 hg
    obtain ⟨d1, d2⟩ := step_days hst
    rw [strX]
    by_cases hx : day < x.f1
    · rw [if_pos hx]
      refine Ev.stepE (fun k => cohousingref32_state.j1 k shares l day b.rate from_ i true b.paid (shares * b.price) I b.lien 0) (fun k => ?_) (Ev.step (fun k => ?_) (ref_fin shares l day b hb from_ i I h0 h2 hd hI))
      · simp only [cohousingref32_state.l0]
        rw [if_pos (by omega), if_neg (by omega), if_pos (by omega), if_pos (by omega), hrd, decide_eq_true (by omega)]
      · simp only [cohousingref32_state.j1]
        rw [if_pos trivial]
    · rw [if_neg hx]
      have ht := takeX_ok hb hst hm
      have hp0 := hb.p0
      have hp1 := hb.p1
      have hl0 := hb.l0
      have hl1 := hb.l1
      -- the step itself
      have J4 : ∀ (f : Int) (I2 : Nat) (R : Int × Int × Int × Int × Int × Int), Ev (fun k => cohousingref32_state.l0 k shares l day (takeX b x).rate f (i + 1 : Nat) (takeX b x).paid (shares * (takeX b x).price) I2 (takeX b x).lien 0) R →
          Ev (fun k => cohousingref32_state.j4 k shares l day b.rate f i false b.paid (shares * b.price) I2 b.lien 0) R := by
        intro f I2 R h
        refine Ev.step (fun k => ?_) h
        have HW := Lib.hid (wrapN i (by omega))
        have hpr : x.f0 = 2 → wrap64 (shares * x.f2) = shares * x.f2 := fun q => by
          have hk := step_kind hst
          have m0 : 0 ≤ shares * x.f2 := Int.mul_nonneg s0 (by omega)
          have m1 : shares * x.f2 ≤ 1000 * 100000 := Int.mul_le_mul s1 (by omega) (by omega) (by decide)
          exact IntWalk.wrap64_in _ (by omega)
        have HPR := Lib.hid hpr
        clear hpr h ih
        simp only [cohousingref32_state.j4]
        rw [if_neg (by simp), if_pos (by omega), if_pos (by omega), hrd, HW.out]
        rcases step_kind hst with ⟨q, e1, e2⟩ | ⟨q, e1, e2⟩ | ⟨q, e1, e2⟩ | ⟨q, e1, e2⟩ | ⟨q, e1, e2⟩ | ⟨q, e1⟩
        · rw [if_pos q, IntWalk.wrap64_in _ (by omega), show (takeX b x).paid = b.paid + x.f2 by simp [takeX, nP, q], show (takeX b x).lien = b.lien by simp [takeX, nL, q], show (takeX b x).price = b.price by simp [takeX, q], show (takeX b x).rate = b.rate by simp [takeX, q]]
        · rw [if_neg (by omega), if_pos q, HPR.out q, show (takeX b x).paid = b.paid by simp [takeX, nP, q], show (takeX b x).lien = b.lien by simp [takeX, nL, q], show (takeX b x).price = x.f2 by simp [takeX, q], show (takeX b x).rate = b.rate by simp [takeX, q]]
        · rw [if_neg (by omega), if_neg (by omega), if_pos q, show (takeX b x).paid = b.paid by simp [takeX, nP, q], show (takeX b x).lien = b.lien by simp [takeX, nL, q], show (takeX b x).price = b.price by simp [takeX, q], show (takeX b x).rate = x.f2 by simp [takeX, q]]
        · rw [if_neg (by omega), if_neg (by omega), if_neg (by omega), if_pos q, IntWalk.wrap64_in _ (by omega), show (takeX b x).paid = b.paid by simp [takeX, nP, q], show (takeX b x).lien = b.lien + x.f2 by simp [takeX, nL, q], show (takeX b x).price = b.price by simp [takeX, q], show (takeX b x).rate = b.rate by simp [takeX, q]]
        · rw [if_neg (by omega), if_neg (by omega), if_neg (by omega), if_neg (by omega), if_pos q, IntWalk.wrap64_in _ (by omega), show (takeX b x).paid = b.paid by simp [takeX, nP, q], show (takeX b x).lien = b.lien - x.f2 by simp [takeX, nL, q], show (takeX b x).price = b.price by simp [takeX, q], show (takeX b x).rate = b.rate by simp [takeX, q]]
        · rw [if_neg (by omega), if_neg (by omega), if_neg (by omega), if_neg (by omega), if_neg (by omega), show (takeX b x).paid = b.paid by simp [takeX, nP, q], show (takeX b x).lien = b.lien by simp [takeX, nL, q], show (takeX b x).price = b.price by simp [takeX, q], show (takeX b x).rate = b.rate by simp [takeX, q]]
      refine Ev.stepE (fun k => cohousingref32_state.j1 k shares l day b.rate from_ i false b.paid (shares * b.price) I b.lien 0) (fun k => ?_) (Ev.stepE (fun k => cohousingref32_state.j2 k shares l day b.rate from_ i false (cutB x) b.paid (shares * b.price) I b.lien 0) (fun k => ?_) ?_)
      · simp only [cohousingref32_state.l0]
        rw [if_pos (by omega), if_neg (by omega), if_pos (by omega), if_pos (by omega), hrd, decide_eq_false (by omega)]
      · simp only [cohousingref32_state.j1]
        rw [if_neg (by simp), if_pos (by omega), if_pos (by omega), hrd]
        by_cases q1 : x.f0 = 1
        · rw [if_pos q1, show cutB x = true by simp [cutB, q1]]
        · rw [if_neg q1, show cutB x = (x.f0 == 3) by unfold cutB; rw [show (x.f0 == 1) = false by simp [q1], Bool.false_or]]
      · by_cases hc : cutB x = true
        · rw [if_pos hc, hc]
          refine Ev.stepE (fun k => cohousingref32_state.j3 k shares l day b.rate from_ i false x.f1 b.paid (shares * b.price) I b.lien 0) (fun k => ?_) (ref_j3 shares l day hb from_ x.f1 (shares * b.price) i I false _ (by omega) (by omega) hI (fun h => ?_) (fun h => ?_))
          · simp only [cohousingref32_state.j2]
            rw [if_pos trivial, if_neg (by simp), if_pos (by omega), if_pos (by omega), hrd]
          · rw [stV, if_pos h]
            refine J4 x.f1 (I + itI (x.f1 - from_, b)) _ ?_
            have h5 := ih (takeX b x) x.f1 x.f1 (I + itI (x.f1 - from_, b)) (by omega) (by omega) ht hr (by omega) (by omega) (by omega) h
            rw [stV_eq shares _ _ _ (strX_ne _ _ _ _) h] at h5 ⊢
            exact h5
          · rw [stV, if_neg h]
            rfl
        · rw [if_neg hc]
          have hc' : cutB x = false := by simpa using hc
          rw [hc']
          refine Ev.stepE (fun k => cohousingref32_state.j4 k shares l day b.rate from_ i false b.paid (shares * b.price) I b.lien 0) (fun k => ?_) (J4 from_ I _ (ih (takeX b x) from_ x.f1 I (by omega) (by omega) ht hr h0 (by omega) h2 hI))
          simp only [cohousingref32_state.j2]
          rw [if_neg (by simp)]
theorem refstate_ev (shares : Int) (l : List S36) (day : Int) (hv : validV l = true) (s0 : 1 ≤ shares) (s1 : shares ≤ 1000) (d0 : 0 ≤ day) (d1 : day ≤ 36524) : Ev (fun k => cohousingref32_state.f k shares l day) (stateV shares l day) := by
  obtain ⟨hg, hlen⟩ := valid_good hv
  have h := refstate_loop shares (by omega) s1 l hlen day d1 _ 0 bk1 0 0 0 rfl (by omega) bk1_ok hg (by omega) (by omega) d0 (by omega)
  rw [List.drop_zero, stV_eq shares _ 0 acc0 (strX_ne day l bk1 0) (by omega), strX_last, Nat.zero_add] at h
  have e : endV (if sumI (strX day bk1 0 l) ≤ 1000000000 then some ⟨(endX day bk1 l).paid, shares * (endX day bk1 l).price, ((sumI (strX day bk1 0 l) : Nat) : Int), (endX day bk1 l).lien⟩ else none) = stateV shares l day := by
    unfold stateV accV intV
    by_cases hs : sumI (strX day bk1 0 l) ≤ 1000000000
    · rw [if_pos hs, if_pos hs]
    · rw [if_neg hs, if_neg hs]
  rw [e] at h
  refine Ev.congr (fun k => ?_) h
  unfold cohousingref32_state.f
  rw [IntWalk.wrap64_in _ (by omega)]
  rfl
end Go.Proofs.YtdhnojfpgpjabaaDoor.P
