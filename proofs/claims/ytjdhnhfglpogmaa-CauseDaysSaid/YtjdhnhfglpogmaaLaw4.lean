/- Layer 36: CauseDays answers true. -/
import Derived.Test.YtjdhnhfglpogmaaLawU
import Derived.Test.YtjdhnhfglpogmaaPx15
set_option linter.unusedSimpArgs false
set_option linter.unusedVariables false
namespace Go.Proofs.Ytjdhnhfglpogmaa.P
open Go Go.RowKit Go.Proofs.YtjdhnhfglpogmaaW.PrintWords Go.Proofs.YtjdhnhfglpogmaaW.PrintLast Go.Proofs.YtjdhnhfglpogmaaW.PrintMore

/-! ### CauseDays -/
def upto (seen : List S48) (day : Int) : List S48 := seen.filter (fun s => decide (s.f2 ≤ day))
theorem agS_upto (l : List S44) (seen : List S48) (day : Int) : agS l (upto seen day) day = agS l seen day := by
  unfold agS
  refine List.filter_congr (fun s _ => ?_)
  unfold agB upto
  rw [List.all_filter]
  refine all_congr_mem _ _ _ (fun x _ => ?_)
  unfold okS
  by_cases h : x.f2 ≤ day
  · simp [h]
  · simp [h]
theorem days_ev (l : List S44) (seen : List S48) (day a : Int) (hw : ∀ v ∈ l, v.f1.length ≤ 9223372036854775807) (ha : 0 ≤ a ∧ a < 256) : Ev (fun k => cohousinglaw36_CauseDays.f k l seen day a) true := by
  have j0t : Ev (fun k => cohousinglaw36_CauseDays.j0 k l seen day a true true) true := Ev.ret fun k => by simp only [cohousinglaw36_CauseDays.j0, if_true]
  have hu := usable_ev l seen day hw
  refine Ev.bind (f := fun k t444 => (if t444 = true then (cohousinglaw36_CauseDays.j0 k l seen day a true ((l.length : Int) == 0)) else (cohousinglaw36_CauseDays.j0 k l seen day a true true))) hu ?_
  cases hb : usableB l seen day with
  | false => simpa only [Bool.false_eq_true, if_false] using j0t
  | true =>
    simp only [if_true]
    obtain ⟨hv, ho, hd, _⟩ := usable_valid hb
    by_cases hl0 : l.length = 0
    · rw [show ((l.length : Int) == 0) = true from by rw [hl0]; rfl]
      exact j0t
    · rw [show ((l.length : Int) == 0) = false from by rw [beq_eq_false_iff_ne]; omega]
      obtain ⟨d, hdl, hde⟩ := tmod_nat a l.length ha.1 ha.2 (by omega)
      have hol := obs_len ho
      have hou : obsB (upto seen day) l.length = true := obs_sub ho (fun s hs => (List.mem_filter.1 hs).1) (List.length_filter_le _ _)
      have e1 := statesV_x l seen day hv ho hd
      have e2 := statesV_x l (upto seen day) day hv hou hd
      have e3 := blameV_x l seen day d hv ho hd hdl
      have e4 := blameV_x l (upto seen day) day d hv hou hd hdl
      unfold statesB at e1 e2
      rw [agS_upto] at e2 e4
      have hsl := statesV_len l seen day
      have hbl := blameV_len l seen day (d : Int)
      rw [e1] at hsl
      rw [e3] at hbl
      have s1 := same_states_refl ((agS l seen day).map (stBits (freeOf l).length)) (Nat.le_trans hsl.1 (by decide)) (fun x hx => Nat.le_trans (hsl.2 x hx) (by decide))
      have s2 := same_ints_ev (blameX l (agS l seen day) d).1 (blameX l (agS l seen day) d).1 (by have := hbl.1; omega)
      have s3 := same_ints_ev (blameX l (agS l seen day) d).2.1 (blameX l (agS l seen day) d).2.1 (by have := hbl.2; omega)
      rw [decide_eq_true rfl] at s2 s3
      have hend : Ev (fun k => cohousinglaw36_CauseDays.l0 k l seen day a true (upto seen day) seen (seen.length : Int) (seen.length : Nat)) true := by
        have f3 := Ev.bind (f := fun k t474 => (some t474)) (r := true) s3 (Ev.ret fun k => rfl)
        have f2 := Ev.bind (f := fun k t473 => (if t473 = true then ((cohousingref36_SameInts.f k (blameX l (agS l seen day) d).2.1 (blameX l (agS l seen day) d).2.1).bind fun t474 => (some t474)) else (some false))) (r := true) s2 (by simpa only [if_true] using f3)
        have f1 := Ev.bind (f := fun k t472 => (if t472 = true then (if (blameX l (agS l seen day) d).2.2 = (blameX l (agS l seen day) d).2.2 then ((cohousingref36_SameInts.f k (blameX l (agS l seen day) d).1 (blameX l (agS l seen day) d).1).bind fun t473 => (if t473 = true then ((cohousingref36_SameInts.f k (blameX l (agS l seen day) d).2.1 (blameX l (agS l seen day) d).2.1).bind fun t474 => (some t474)) else (some false))) else (some false)) else (some false))) (r := true) s1 (by simpa only [if_true] using f2)
        refine Ev.step (fun k => ?_) f1
        simp only [cohousinglaw36_CauseDays.l0]
        rw [if_neg (by omega), if_neg (by omega)]
        simp only [cause_States.f, cause_Blame.f, Option.bind_some, hde, e1, e2, e3, e4, if_true]
      have h : ∀ e i, seen.length - i = e → i ≤ seen.length → Ev (fun k => cohousinglaw36_CauseDays.l0 k l seen day a true (upto (seen.take i) day) seen (seen.length : Int) (i : Nat)) true := by
        intro e
        induction e with
        | zero =>
          intro i he hi
          obtain rfl : i = seen.length := by omega
          rw [List.take_length]
          exact hend
        | succ e ih =>
          intro i he hi
          have h2 := ih (i + 1) (by omega) (by omega)
          have htk : seen.take (i + 1) = seen.take i ++ [rd_T48 seen i] := by
            rw [List.take_succ_eq_append_getElem (by omega)]
            simp [rd_T48, List.getD_eq_getElem?_getD, List.getElem?_eq_getElem (show i < seen.length by omega)]
          have hlen : (upto (seen.take i) day).length ≤ 100 := Nat.le_trans (List.length_filter_le _ _) (Nat.le_trans (List.length_take_le _ _) (by omega))
          unfold upto at h2 hlen ⊢
          rw [htk, List.filter_append] at h2
          refine Ev.step (fun k => ?_) h2
          simp only [cohousinglaw36_CauseDays.l0]
          rw [if_pos (by omega), if_pos (by omega), if_pos (by omega), wrapN i (by omega)]
          by_cases hc : (rd_T48 seen (i : Int)).f2 ≤ day
          · rw [if_pos hc, if_pos (by omega), List.filter_cons, decide_eq_true hc]
            rfl
          · rw [if_neg hc, List.filter_cons, decide_eq_false hc]
            simp
      have h0 := h seen.length 0 (by omega) (by omega)
      refine Ev.step (fun k => ?_) h0
      simp only [cohousinglaw36_CauseDays.j0, Bool.false_eq_true, if_false]
      rfl

end Go.Proofs.Ytjdhnhfglpogmaa.P
