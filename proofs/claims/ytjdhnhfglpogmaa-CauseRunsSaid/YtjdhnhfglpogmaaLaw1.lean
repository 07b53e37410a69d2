/- Layer 36: CauseMatchesReference answers true. -/
import Derived.Test.YtjdhnhfglpogmaaPref3
import Derived.Test.YtjdhnhfglpogmaaPx8
set_option linter.unusedSimpArgs false
set_option linter.unusedVariables false
namespace Go.Proofs.Ytjdhnhfglpogmaa.P
open Go.RowKit Go.Proofs.YtjdhnhfglpogmaaW.PrintWords Go.Proofs.YtjdhnhfglpogmaaW.PrintLast Go.Proofs.YtjdhnhfglpogmaaW.PrintMore

theorem runV_len (l : List S44) (free : List Bool) : (runV l free).1.length ≤ 9223372036854775807 := by
  unfold runV
  split
  · rename_i h
    simp only [Bool.and_eq_true] at h
    have := valid_len h.1
    show (runB l free).length ≤ _
    rw [runB_len]
    omega
  · show ([] : List Bool).length ≤ _
    simp
theorem statesV_len (l : List S44) (seen : List S48) (day : Int) : (statesV l seen day).1.length ≤ 4096 ∧ ∀ x ∈ (statesV l seen day).1, x.length ≤ 12 := by
  unfold statesV
  split
  · rename_i h
    simp only [Bool.and_eq_true] at h
    have h1 := agS_le l seen day (valid_len h.1)
    refine ⟨by show (statesB l seen day).length ≤ _; unfold statesB; rw [List.length_map]; exact h1, fun x hx => ?_⟩
    replace hx : x ∈ statesB l seen day := hx
    unfold statesB at hx
    obtain ⟨s, _, rfl⟩ := List.mem_map.1 hx
    rw [stBits_len]
    exact Nat.le_trans (freeAt_length l 0) (valid_len h.1)
  · exact ⟨by simp, fun x hx => by simp at hx⟩
theorem blameV_len (l : List S44) (seen : List S48) (day defect : Int) : (blameV l seen day defect).1.length ≤ 64 ∧ (blameV l seen day defect).2.1.length ≤ 64 := by
  unfold blameV
  repeat' split
  all_goals first
    | exact ⟨partyL_len _ 64, partyL_len _ 64⟩
    | exact ⟨Nat.zero_le _, Nat.zero_le _⟩
theorem matches_ev (l : List S44) (free : List Bool) (seen : List S48) (day defect : Int) (hw : ∀ v ∈ l, v.f1.length ≤ 9223372036854775807) :
    Ev (fun k => cohousinglaw36_CauseMatchesReference.f k l free seen day defect) true := by
  have j2 : Ev (fun k => cohousinglaw36_CauseMatchesReference.j2 k l seen day defect true) true := by
    have h2 := same_ints_ev (blameV l seen day defect).2.1 (blameV l seen day defect).2.1 (by have := (blameV_len l seen day defect).2; omega)
    have h1 := same_ints_ev (blameV l seen day defect).1 (blameV l seen day defect).1 (by have := (blameV_len l seen day defect).1; omega)
    rw [decide_eq_true rfl] at h1 h2
    have hb := Blame_ev l seen day defect hw
    have e2 := Ev.bind (f := fun k t264 => (if t264 = true then (some ((blameV l seen day defect).2.2 == (blameV l seen day defect).2.2)) else (some false))) (r := true) h2 (Ev.ret fun k => by rw [if_pos rfl, beq_self_eq_true])
    have e1 := Ev.bind (f := fun k t263 => (if t263 = true then ((cohousingref36_SameInts.f k (blameV l seen day defect).2.1 (blameV l seen day defect).2.1).bind fun t264 => (if t264 = true then (some ((blameV l seen day defect).2.2 == (blameV l seen day defect).2.2)) else (some false))) else (some false))) (r := true) h1 (by simpa only [if_true] using e2)
    have e0 := Ev.bind (f := fun k (bt256 : List Int × List Int × Int) => ((cohousingref36_SameInts.f k (blameV l seen day defect).1 bt256.1).bind fun t263 => (if t263 = true then ((cohousingref36_SameInts.f k (blameV l seen day defect).2.1 bt256.2.1).bind fun t264 => (if t264 = true then (some ((blameV l seen day defect).2.2 == bt256.2.2)) else (some false))) else (some false)))) (r := true) hb e1
    refine Ev.step (fun k => ?_) e0
    simp only [cohousinglaw36_CauseMatchesReference.j2, cause_Blame.f, Option.bind_some, if_true]
  have j1 : Ev (fun k => cohousinglaw36_CauseMatchesReference.j1 k l seen day defect true) true := by
    have h1 := same_states_refl (statesV l seen day).1 (by have := (statesV_len l seen day).1; omega) (fun x hx => by have := (statesV_len l seen day).2 x hx; omega)
    have hb := States_ev l seen day hw
    have e1 := Ev.bind (f := fun k t248 => (if t248 = true then (cohousinglaw36_CauseMatchesReference.j2 k l seen day defect ((statesV l seen day).2 == (statesV l seen day).2)) else (cohousinglaw36_CauseMatchesReference.j2 k l seen day defect false))) (r := true) h1 (by simpa only [if_true, beq_self_eq_true] using j2)
    have e0 := Ev.bind (f := fun k (bt244 : List (List Bool) × Int) => ((cohousingref36_SameStates.f k (statesV l seen day).1 bt244.1).bind fun t248 => (if t248 = true then (cohousinglaw36_CauseMatchesReference.j2 k l seen day defect ((statesV l seen day).2 == bt244.2)) else (cohousinglaw36_CauseMatchesReference.j2 k l seen day defect false)))) (r := true) hb e1
    refine Ev.step (fun k => ?_) e0
    simp only [cohousinglaw36_CauseMatchesReference.j1, cause_States.f, Option.bind_some, if_true]
  have j0f : Ev (fun k => cohousinglaw36_CauseMatchesReference.j0 k l free seen day defect true false) true := by
    have h1 := same_bools_ev (runV l free).1 (runV l free).1 (runV_len l free)
    rw [decide_eq_true rfl] at h1
    have hb := Run_ev l free hw
    have hv1 := cause_valid_ev l hw
    have hv2 := ref_valid_ev l hw
    have e3 := Ev.bind (f := fun k t239 => (if t239 = true then (cohousinglaw36_CauseMatchesReference.j1 k l seen day defect ((runV l free).2 == (runV l free).2)) else (cohousinglaw36_CauseMatchesReference.j1 k l seen day defect false))) (r := true) h1 (by simpa only [if_true, beq_self_eq_true] using j1)
    have e2 := Ev.bind (f := fun k t238 => (if (validB l == t238) = true then ((cohousingref36_SameBools.f k (runV l free).1 (runV l free).1).bind fun t239 => (if t239 = true then (cohousinglaw36_CauseMatchesReference.j1 k l seen day defect ((runV l free).2 == (runV l free).2)) else (cohousinglaw36_CauseMatchesReference.j1 k l seen day defect false))) else (cohousinglaw36_CauseMatchesReference.j1 k l seen day defect false))) (r := true) hv2 (by simpa only [if_true, beq_self_eq_true] using e3)
    have e1 := Ev.bind (f := fun k t237 => ((cohousingref36_Valid.f k l).bind fun t238 => (if (t237 == t238) = true then ((cohousingref36_SameBools.f k (runV l free).1 (runV l free).1).bind fun t239 => (if t239 = true then (cohousinglaw36_CauseMatchesReference.j1 k l seen day defect ((runV l free).2 == (runV l free).2)) else (cohousinglaw36_CauseMatchesReference.j1 k l seen day defect false))) else (cohousinglaw36_CauseMatchesReference.j1 k l seen day defect false)))) (r := true) hv1 e2
    have e0 := Ev.bind (f := fun k (bt233 : List Bool × Int) => ((cause_Valid.f k l).bind fun t237 => ((cohousingref36_Valid.f k l).bind fun t238 => (if (t237 == t238) = true then ((cohousingref36_SameBools.f k (runV l free).1 bt233.1).bind fun t239 => (if t239 = true then (cohousinglaw36_CauseMatchesReference.j1 k l seen day defect ((runV l free).2 == bt233.2)) else (cohousinglaw36_CauseMatchesReference.j1 k l seen day defect false))) else (cohousinglaw36_CauseMatchesReference.j1 k l seen day defect false))))) (r := true) hb e1
    refine Ev.step (fun k => ?_) e0
    simp only [cohousinglaw36_CauseMatchesReference.j0, cause_Run.f, Option.bind_some, if_true, Bool.false_eq_true, if_false]
  have j0t : Ev (fun k => cohousinglaw36_CauseMatchesReference.j0 k l free seen day defect true true) true := Ev.ret fun k => by simp only [cohousinglaw36_CauseMatchesReference.j0, if_true]
  have hf := few_ev l seen
  have e := Ev.bind (f := fun k t228 => (if t228 = true then (cohousinglaw36_CauseMatchesReference.j0 k l free seen day defect true (decide ((free.length : Int) > 20))) else (cohousinglaw36_CauseMatchesReference.j0 k l free seen day defect true true))) (r := true) hf (by
    cases fewB l seen.length with
    | false => simpa only [Bool.false_eq_true, if_false] using j0t
    | true =>
      simp only [if_true]
      by_cases h : (free.length : Int) > 20
      · simpa only [decide_eq_true h] using j0t
      · simpa only [decide_eq_false h] using j0f)
  exact e
end Go.Proofs.Ytjdhnhfglpogmaa.P
