/- Layer 36: CauseLearns answers true. -/
import Derived.Test.YtjdhnhfglpogmaaLawU
import Derived.Test.YtjdhnhfglpogmaaPx14
set_option linter.unusedSimpArgs false
set_option linter.unusedVariables false
namespace Go.Proofs.Ytjdhnhfglpogmaa.P
open Go Go.RowKit Go.Proofs.YtjdhnhfglpogmaaW.PrintWords Go.Proofs.YtjdhnhfglpogmaaW.PrintLast Go.Proofs.YtjdhnhfglpogmaaW.PrintMore

/-! ### CauseLearns -/
theorem agS_snoc (l : List S44) (seen : List S48) (o : S48) (day : Int) : ∀ s ∈ agS l (seen ++ [o]) day, s ∈ agS l seen day := by
  intro s hs
  rw [agS_mem] at *
  refine ⟨hs.1, ?_⟩
  have h2 := hs.2
  unfold agB at *
  rw [List.all_append, Bool.and_eq_true] at h2
  exact h2.1
theorem learns_ev (l : List S44) (seen : List S48) (o0 : Int) (o1 : Bool) (o2 : Int) (day a : Int) (hw : ∀ v ∈ l, v.f1.length ≤ 9223372036854775807) (hsl : seen.length ≤ 5864062014635) (ha : 0 ≤ a ∧ a < 256) : Ev (fun k => cohousinglaw36_CauseLearns.f k l seen o0 o1 o2 day a) true := by
  have j0t : Ev (fun k => cohousinglaw36_CauseLearns.j0 k l seen day a true (seen ++ [⟨o0, o1, o2⟩]) true) true := Ev.ret fun k => by simp only [cohousinglaw36_CauseLearns.j0, if_true]
  have hu := usable_ev l (seen ++ [⟨o0, o1, o2⟩]) day hw
  have main : Ev (fun k => (cohousinglaw36_usable.f k l (seen ++ [⟨o0, o1, o2⟩]) day).bind fun t405 => (if t405 = true then (cohousinglaw36_CauseLearns.j0 k l seen day a true (seen ++ [⟨o0, o1, o2⟩]) ((l.length : Int) == 0)) else (cohousinglaw36_CauseLearns.j0 k l seen day a true (seen ++ [⟨o0, o1, o2⟩]) true))) true := by
    refine Ev.bind (f := fun k t405 => (if t405 = true then (cohousinglaw36_CauseLearns.j0 k l seen day a true (seen ++ [⟨o0, o1, o2⟩]) ((l.length : Int) == 0)) else (cohousinglaw36_CauseLearns.j0 k l seen day a true (seen ++ [⟨o0, o1, o2⟩]) true))) hu ?_
    cases hb : usableB l (seen ++ [⟨o0, o1, o2⟩]) day with
    | false => simpa only [Bool.false_eq_true, if_false] using j0t
    | true =>
      simp only [if_true]
      obtain ⟨hv, ho, hd, _⟩ := usable_valid hb
      by_cases hl0 : l.length = 0
      · rw [show ((l.length : Int) == 0) = true from by rw [hl0]; rfl]
        exact j0t
      · rw [show ((l.length : Int) == 0) = false from by rw [beq_eq_false_iff_ne]; omega]
        obtain ⟨d, hdl, hde⟩ := tmod_nat a l.length ha.1 ha.2 (by omega)
        have ho1 : obsB seen l.length = true := obs_sub ho (fun s hs => List.mem_append_left _ hs) (by rw [List.length_append]; omega)
        have e3 := blameV_x l seen day d hv ho1 hd hdl
        have e4 := blameV_x l (seen ++ [⟨o0, o1, o2⟩]) day d hv ho hd hdl
        have hsub := agS_snoc l seen ⟨o0, o1, o2⟩ day
        generalize agS l (seen ++ [⟨o0, o1, o2⟩]) day = Y at *
        generalize agS l seen day = X at *
        refine Ev.ret fun k => ?_
        simp only [cohousinglaw36_CauseLearns.j0, Bool.false_eq_true, if_false]
        rw [if_neg (by omega)]
        simp only [cause_Blame.f, cohousinglaw36_in.f, Option.bind_some, hde, e3, e4, if_true]
        unfold blameX
        by_cases hX : X.length = 0
        · have hY : Y.length = 0 := by
            cases Y with
            | nil => rfl
            | cons y Y =>
              have := hsub y (by simp)
              rw [List.eq_nil_of_length_eq_zero hX] at this
              simp at this
          simp only [if_pos hX, if_pos hY, if_true]
          rfl
        · have hsm := partyL_in _ _ 64 (sure_maybe l X d hX)
          simp only [if_neg hX]
          rw [if_neg (show ¬ (0 : Int) = 4 by decide)]
          simp only [if_true]
          by_cases hY : Y.length = 0
          · simp only [if_pos hY]
            simp only [if_true]
            rw [if_pos (show wrap64 ((([] : List Int).length : Int) + (([] : List Int).length : Int)) = 0 from by show wrap64 (((0 : Nat) : Int) + ((0 : Nat) : Int)) = 0; unfold wrap64; omega), hsm]
          · have h1 := partyL_in _ _ 64 (sure_sub l X Y d hsub)
            have h2 := partyL_in _ _ 64 (maybe_sub l X Y d hsub)
            simp only [if_neg hY]
            rw [if_neg (show ¬ (0 : Int) = 4 by decide)]
            simp only [if_true, h1, h2, hsm]
  refine Ev.congr (fun k => ?_) main
  simp only [cohousinglaw36_CauseLearns.f, cohousinglaw36_head.f, Option.bind_some, List.nil_append, List.length_nil, List.length_cons, List.length_append]
  rw [if_pos (by omega), if_pos (by omega)]
end Go.Proofs.Ytjdhnhfglpogmaa.P
