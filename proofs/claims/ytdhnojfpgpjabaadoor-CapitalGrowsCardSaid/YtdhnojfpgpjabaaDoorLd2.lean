/- Chapter 32: CapitalGrows answers true. -/
import Derived.Test.YtdhnojfpgpjabaaDoorPcC
import Derived.Test.YtdhnojfpgpjabaaDoorPx17
set_option linter.unusedSimpArgs false
set_option linter.unusedVariables false
namespace Go.Proofs.YtdhnojfpgpjabaaDoor.P
open Go Go.RowKit Go.Proofs.YtdhnojfpgpjabaaDoorW.PrintWords Go.Proofs.YtdhnojfpgpjabaaDoorW.PrintLast Go.Proofs.YtdhnojfpgpjabaaDoorW.PrintMore

theorem grows_ev (a0 : Int) (l : List S36) (a2 a3 : Int) (hl : l.length ≤ 9223372036854775807) (h0 : 0 ≤ a0 ∧ a0 ≤ 65535) (h2 : 0 ≤ a2 ∧ a2 ≤ 65535) (h3 : 0 ≤ a3 ∧ a3 ≤ 65535) : Ev (fun k => cohousinglaw32_CapitalGrows.f k a0 l a2 a3) true := by
  refine Ev.bind head_ev (Ev.bind (usable_ev l hl) ?_)
  cases hu : (decide (l.length ≤ 60) && validV l) with
  | false => exact ⟨0, fun k _ => if_neg (by simp)⟩
  | true =>
    simp only [Bool.and_eq_true] at hu
    have hv := hu.2
    have hs := State_ev (1 + a0 % 1000) l (a2 % 36525) hv (by omega) (by omega) (by omega) (by omega)
    have ht := State_ev (1 + a0 % 1000) l (min 36524 (a2 % 36525 + a3 % 36525)) hv (by omega) (by omega) (by omega) (by omega)
    have hmono : intV l (a2 % 36525) ≤ intV l (min 36524 (a2 % 36525 + a3 % 36525)) := sum_mono _ _ (by omega) l bk1 0 0 bk1_ok (valid_good hv).1
    refine Ev.congr (f := fun k => (capital_State.f k (1 + a0 % 1000) l (a2 % 36525)).bind fun bt296 => (capital_State.f k (1 + a0 % 1000) l (min 36524 (a2 % 36525 + a3 % 36525))).bind fun bt306 =>
      (if bt296.2.2.2.2.2 = 0 then (if bt306.2.2.2.2.2 = 0 then (if 0 ≤ bt296.2.2.1 then (some (decide (bt296.2.2.1 ≤ bt306.2.2.1))) else (some false)) else (some true)) else (some true))) (fun k => ?_) (Ev.bind hs (Ev.bind ht ?_))
    · rw [if_pos rfl, count_f a0 h0.1 h0.2, on_f a2 h2.1 h2.2, on_f a3 h3.1 h3.2]
      simp only [obs, if_true]
      rw [mn_eq, IntWalk.wrap64_in _ (by omega)]
    · by_cases e1 : (stateV (1 + a0 % 1000) l (a2 % 36525)).2.2.2.2.2 = 0
      · by_cases e2 : (stateV (1 + a0 % 1000) l (min 36524 (a2 % 36525 + a3 % 36525))).2.2.2.2.2 = 0
        · have i1 : (stateV (1 + a0 % 1000) l (a2 % 36525)).2.2.1 = ((intV l (a2 % 36525) : Nat) : Int) := by rw [(stateV_yes e1).2.2]; rfl
          have i2 : (stateV (1 + a0 % 1000) l (min 36524 (a2 % 36525 + a3 % 36525))).2.2.1 = ((intV l (min 36524 (a2 % 36525 + a3 % 36525)) : Nat) : Int) := by rw [(stateV_yes e2).2.2]; rfl
          rw [if_pos e1, if_pos e2, i1, i2, if_pos (by omega), decide_eq_true (by omega)]
          exact Ev.now _
        · rw [if_pos e1, if_neg e2]
          exact Ev.now _
      · rw [if_neg e1]
        exact Ev.now _
end Go.Proofs.YtdhnojfpgpjabaaDoor.P
