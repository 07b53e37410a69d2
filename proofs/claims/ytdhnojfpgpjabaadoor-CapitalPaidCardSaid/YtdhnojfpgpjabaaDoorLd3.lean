/- Chapter 32: CapitalPaid answers true. -/
import Derived.Test.YtdhnojfpgpjabaaDoorPcC
import Derived.Test.YtdhnojfpgpjabaaDoorPx16
set_option linter.unusedSimpArgs false
set_option linter.unusedVariables false
namespace Go.Proofs.YtdhnojfpgpjabaaDoor.P
open Go Go.RowKit Go.Proofs.YtdhnojfpgpjabaaDoorW.PrintWords Go.Proofs.YtdhnojfpgpjabaaDoorW.PrintLast Go.Proofs.YtdhnojfpgpjabaaDoorW.PrintMore

theorem paid_end (a0 : Int) (l : List S36) (a2 : Int) (h0 : 0 ≤ a0 ∧ a0 ≤ 65535) (i : Nat) (b : Bk) (I : Int) (due : Int) (hb : BkOk b) (hI : 0 ≤ I) (hI1 : I ≤ 1000000000)
    (hdue : due = max 0 (min b.paid ((1 + a0 % 1000) * b.price) + I - b.lien)) : Ev (fun k => cohousinglaw32_CapitalPaid.j1 k a0 l a2 true b.paid b.lien b.price i false b.paid ((1 + a0 % 1000) * b.price) I b.lien due) true := by
  refine Ev.ret fun k => ?_
  have hv0 : 0 ≤ (1 + a0 % 1000) * b.price := Int.mul_nonneg (by omega) hb.v0
  have hv1 : (1 + a0 % 1000) * b.price ≤ 1000 * 100000 := Int.mul_le_mul (by omega) hb.v1 hb.v0 (by decide)
  have hp0 := hb.p0
  have hp1 := hb.p1
  have hl0 := hb.l0
  have hl1 := hb.l1
  simp only [cohousinglaw32_CapitalPaid.j1]
  rw [if_neg (by simp)]
  simp only [if_true]
  rw [count_f a0 h0.1 h0.2, obs, Int.mul_comm b.price]
  generalize (1 + a0 % 1000) * b.price = v at *
  rw [IntWalk.wrap64_in v (by omega), if_pos rfl, mn_eq, mx_eq, IntWalk.wrap64_in (_ + _) (by omega), IntWalk.wrap64_in _ (by omega), ← hdue]
  simp
set_option maxHeartbeats 1000000 in
theorem paid_loop (a0 : Int) (l : List S36) (a2 : Int) (hlen : l.length ≤ 1000) (h0 : 0 ≤ a0 ∧ a0 ≤ 65535) (h2 : 0 ≤ a2 ∧ a2 ≤ 65535) (e : Bk) (he : BkOk e) (I : Int) (due : Int) (hI : 0 ≤ I) (hI1 : I ≤ 1000000000)
    (hdue : due = max 0 (min e.paid ((1 + a0 % 1000) * e.price) + I - e.lien)) : ∀ (d i : Nat) (b : Bk) (last : Int), l.length - i = d → i ≤ l.length → BkOk b → GoodX b last (l.drop i) → endX (a2 % 36525) b (l.drop i) = e →
    Ev (fun k => cohousinglaw32_CapitalPaid.l0 k a0 l a2 true b.paid b.lien b.price i e.paid ((1 + a0 % 1000) * e.price) I e.lien due) true
  | 0, i, b, last, hd, hi, hb, hg, hend => by
    obtain rfl : i = l.length := by omega
    rw [List.drop_length] at hend
    have hbe : b = e := hend
    subst hbe
    refine Ev.step (fun k => ?_) (paid_end a0 l a2 h0 l.length b I due hb hI hI1 hdue)
    simp only [cohousinglaw32_CapitalPaid.l0]
    rw [if_neg (by omega)]
  | d + 1, i, b, last, hd, hi, hb, hg, hend => by
    have hlt : i < l.length := by omega
    have hrd := rd36 hlt
    have ih := paid_loop a0 l a2 hlen h0 h2 e he I due hI hI1 hdue d (i + 1)
    rw [List.drop_eq_getElem_cons hlt] at hg hend
    generalize l[i] = x at *
    obtain ⟨hs, hm, hr⟩ := goodX_cons.1 hg
    rw [endX] at hend
    by_cases hx : a2 % 36525 < x.f1
    · rw [if_pos hx] at hend
      subst hend
      refine Ev.step (fun k => ?_) (paid_end a0 l a2 h0 i b I due hb hI hI1 hdue)
      simp only [cohousinglaw32_CapitalPaid.l0]
      rw [if_pos (by omega), if_pos (by omega), on_f a2 h2.1 h2.2, obs, hrd, decide_eq_false (by omega)]
    · rw [if_neg hx] at hend
      have ht := takeX_ok hb hs hm
      have ih2 := ih (takeX b x) x.f1 (by omega) (by omega) ht hr hend
      clear ih hdue
      have hw : wrap64 ((i : Int) + 1) = ((i + 1 : Nat) : Int) := wrapN i (by omega)
      have hp0 := hb.p0
      have hp1 := hb.p1
      have hl0 := hb.l0
      have hl1 := hb.l1
      refine Ev.stepE (fun k => cohousinglaw32_CapitalPaid.j1 k a0 l a2 true b.paid b.lien b.price i true e.paid ((1 + a0 % 1000) * e.price) I e.lien due) (fun k => ?_) (Ev.step (fun k => ?_) ih2)
      · simp only [cohousinglaw32_CapitalPaid.l0]
        rw [if_pos (by omega), if_pos (by omega), on_f a2 h2.1 h2.2, obs, hrd, decide_eq_true (by omega)]
      · clear ih2 hend hm hr hg ht
        simp only [cohousinglaw32_CapitalPaid.j1]
        rw [if_pos trivial, if_pos (by omega), if_pos (by omega), hrd, hw]
        rcases step_kind hs with ⟨q, h1, h2⟩ | ⟨q, h1, h2⟩ | ⟨q, h1, h2⟩ | ⟨q, h1, h2⟩ | ⟨q, h1, h2⟩ | ⟨q, h1⟩
        · rw [if_pos q, IntWalk.wrap64_in _ (by omega), show (takeX b x).paid = b.paid + x.f2 by simp [takeX, nP, q], show (takeX b x).lien = b.lien by simp [takeX, nL, q], show (takeX b x).price = b.price by simp [takeX, q]]
        · rw [if_neg (by omega), if_neg (by omega), if_neg (by omega), if_pos q, show (takeX b x).paid = b.paid by simp [takeX, nP, q], show (takeX b x).lien = b.lien by simp [takeX, nL, q], show (takeX b x).price = x.f2 by simp [takeX, q]]
        · rw [if_neg (by omega), if_neg (by omega), if_neg (by omega), if_neg (by omega), show (takeX b x).paid = b.paid by simp [takeX, nP, q], show (takeX b x).lien = b.lien by simp [takeX, nL, q], show (takeX b x).price = b.price by simp [takeX, q]]
        · rw [if_neg (by omega), if_pos q, IntWalk.wrap64_in _ (by omega), show (takeX b x).paid = b.paid by simp [takeX, nP, q], show (takeX b x).lien = b.lien + x.f2 by simp [takeX, nL, q], show (takeX b x).price = b.price by simp [takeX, q]]
        · rw [if_neg (by omega), if_neg (by omega), if_pos q, IntWalk.wrap64_in _ (by omega), show (takeX b x).paid = b.paid by simp [takeX, nP, q], show (takeX b x).lien = b.lien - x.f2 by simp [takeX, nL, q], show (takeX b x).price = b.price by simp [takeX, q]]
        · rw [if_neg (by omega), if_neg (by omega), if_neg (by omega), if_neg (by omega), show (takeX b x).paid = b.paid by simp [takeX, nP, q], show (takeX b x).lien = b.lien by simp [takeX, nL, q], show (takeX b x).price = b.price by simp [takeX, q]]
theorem paid_ev (a0 : Int) (l : List S36) (a2 : Int) (hl : l.length ≤ 9223372036854775807) (h0 : 0 ≤ a0 ∧ a0 ≤ 65535) (h2 : 0 ≤ a2 ∧ a2 ≤ 65535) : Ev (fun k => cohousinglaw32_CapitalPaid.f k a0 l a2) true := by
  refine Ev.bind head_ev (Ev.bind (usable_ev l hl) ?_)
  cases hu : (decide (l.length ≤ 60) && validV l) with
  | false => exact ⟨0, fun k _ => if_neg (by simp)⟩
  | true =>
    simp only [Bool.and_eq_true] at hu
    have hv := hu.2
    obtain ⟨hg, hlen⟩ := valid_good hv
    have hs := State_ev (1 + a0 % 1000) l (a2 % 36525) hv (by omega) (by omega) (by omega) (by omega)
    refine Ev.congr (f := fun k => (capital_State.f k (1 + a0 % 1000) l (a2 % 36525)).bind fun bt277 => (if bt277.2.2.2.2.2 = 0 then (cohousinglaw32_CapitalPaid.l0 k a0 l a2 true 0 0 100 0 bt277.1 bt277.2.1 bt277.2.2.1 bt277.2.2.2.1 bt277.2.2.2.2.1) else (if true = true then (if bt277.2.2.2.2.2 = 3 then (some (bt277.1 == 0 && (bt277.2.1 == 0 && (bt277.2.2.1 == 0 && (bt277.2.2.2.1 == 0 && (bt277.2.2.2.2.1 == 0)))))) else (some false)) else (some false)))) (fun k => ?_) (Ev.bind hs ?_)
    · rw [if_pos rfl, count_f a0 h0.1 h0.2, on_f a2 h2.1 h2.2]
      simp only [obs]
    · by_cases e1 : (stateV (1 + a0 % 1000) l (a2 % 36525)).2.2.2.2.2 = 0
      · obtain ⟨hi, _, hst⟩ := stateV_yes e1
        obtain ⟨hdue, _, _⟩ := due_eq (1 + a0 % 1000) l (a2 % 36525) hv (by omega) (by omega) hi
        refine Ev.congr (fun k => ?_) (paid_loop a0 l a2 hlen h0 h2 (endX (a2 % 36525) bk1 l) (endX_ok _ l bk1 0 bk1_ok hg) ((intV l (a2 % 36525) : Nat) : Int) (dueV (accV (1 + a0 % 1000) l (a2 % 36525))) (by omega) (by omega) hdue _ 0 bk1 0 rfl (by omega) bk1_ok hg rfl)
        rw [if_pos e1, hst]
        rfl
      · refine Ev.congr (f := fun _ => some true) (fun k => ?_) (Ev.now true)
        rw [if_neg e1, stateV_no e1]
        rfl
end Go.Proofs.YtdhnojfpgpjabaaDoor.P
