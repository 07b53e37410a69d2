/- Chapter 32: CapitalPast and CapitalGrows answer true. -/
import Derived.Test.YtdhnojfpgpjabaaDoorPcC
import Derived.Test.YtdhnojfpgpjabaaDoorPx21
set_option linter.unusedSimpArgs false
set_option linter.unusedVariables false
namespace Go.Proofs.YtdhnojfpgpjabaaDoor.P
open Go Go.RowKit Go.Proofs.YtdhnojfpgpjabaaDoorW.PrintWords Go.Proofs.YtdhnojfpgpjabaaDoorW.PrintLast Go.Proofs.YtdhnojfpgpjabaaDoorW.PrintMore

theorem past_end (a0 : Int) (l : List S36) (a2 : Int) (hv : validV l = true) (h0 : 0 ≤ a0) (h1 : a0 ≤ 65535) (h2 : 0 ≤ a2) (h3 : a2 ≤ 65535) (n : Nat) (hn : n ≤ l.length) (hx : ∀ x, l[n]? = some x → a2 % 36525 < x.f1) :
    Ev (fun k => cohousinglaw32_CapitalPast.j1 k a0 l a2 true n) true := by
  have hlen := (valid_good hv).2
  have hs := State_ev (1 + a0 % 1000) l (a2 % 36525) hv (by omega) (by omega) (by omega) (by omega)
  have ht := State_ev (1 + a0 % 1000) (l.take n) (a2 % 36525) (valid_of (good_take l n _ _ (valid_good hv).1) (by rw [List.length_take]; omega)) (by omega) (by omega) (by omega) (by omega)
  rw [stateV_take _ _ _ _ hx] at ht
  refine Ev.stepE (fun k => (capital_State.f k (1 + a0 % 1000) l (a2 % 36525)).bind fun bt386 => (capital_State.f k (1 + a0 % 1000) (l.take n) (a2 % 36525)).bind fun bt399 =>
    (if (bt386.1 == bt399.1 && (bt386.2.1 == bt399.2.1 && (bt386.2.2.1 == bt399.2.2.1 && (bt386.2.2.2.1 == bt399.2.2.2.1 && (bt386.2.2.2.2.1 == bt399.2.2.2.2.1))))) = true then (some (bt386.2.2.2.2.2 == bt399.2.2.2.2.2)) else (some false))) (fun k => ?_) (Ev.bind hs (Ev.bind ht ?_))
  · simp only [cohousinglaw32_CapitalPast.j1]
    rw [count_f a0 h0 h1, on_f a2 h2 h3]
    simp only [obs, show (0 : Int) ≤ (n : Int) from by omega, show (n : Int) ≤ (l.length : Int) from by omega, if_true, Int.toNat_natCast]
  · rw [if_pos (by simp)]
    simp only [beq_self_eq_true]
    exact Ev.now _
theorem past_loop (a0 : Int) (l : List S36) (a2 : Int) (hv : validV l = true) (h0 : 0 ≤ a0) (h1 : a0 ≤ 65535) (h2 : 0 ≤ a2) (h3 : a2 ≤ 65535) : ∀ (d i : Nat), l.length - i = d → i ≤ l.length → Ev (fun k => cohousinglaw32_CapitalPast.l0 k a0 l a2 true i) true
  | 0, i, hd, hi => by
    obtain rfl : i = l.length := by omega
    refine Ev.step (fun k => ?_) (past_end a0 l a2 hv h0 h1 h2 h3 l.length (Nat.le_refl _) (fun x hx => by simp at hx))
    simp only [cohousinglaw32_CapitalPast.l0]
    rw [if_neg (by omega)]
  | d + 1, i, hd, hi => by
    have hlt : i < l.length := by omega
    have hrd := rd36 hlt
    have hlen := (valid_good hv).2
    by_cases hx : l[i].f1 ≤ a2 % 36525
    · refine Ev.step (fun k => ?_) (past_loop a0 l a2 hv h0 h1 h2 h3 d (i + 1) (by omega) (by omega))
      simp only [cohousinglaw32_CapitalPast.l0]
      rw [if_pos (by omega), if_pos (by omega), on_f a2 h2 h3, obs, hrd, if_pos hx, wrapN i (by omega)]
    · refine Ev.step (fun k => ?_) (past_end a0 l a2 hv h0 h1 h2 h3 i hi (fun x hx2 => by
        rw [List.getElem?_eq_getElem hlt] at hx2
        obtain rfl := Option.some.inj hx2
        omega))
      simp only [cohousinglaw32_CapitalPast.l0]
      rw [if_pos (by omega), if_pos (by omega), on_f a2 h2 h3, obs, hrd, if_neg hx]
theorem past_ev (a0 : Int) (l : List S36) (a2 : Int) (hl : l.length ≤ 9223372036854775807) (h0 : 0 ≤ a0 ∧ a0 ≤ 65535) (h2 : 0 ≤ a2 ∧ a2 ≤ 65535) : Ev (fun k => cohousinglaw32_CapitalPast.f k a0 l a2) true := by
  refine Ev.bind head_ev (Ev.bind (usable_ev l hl) ?_)
  cases hu : (decide (l.length ≤ 60) && validV l) with
  | false => exact ⟨0, fun k _ => if_neg (by simp)⟩
  | true =>
    simp only [Bool.and_eq_true] at hu
    refine Ev.congr (fun k => ?_) (past_loop a0 l a2 hu.2 h0.1 h0.2 h2.1 h2.2 _ 0 rfl (by omega))
    rw [if_pos rfl]
    rfl
end Go.Proofs.YtdhnojfpgpjabaaDoor.P
