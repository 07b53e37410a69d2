/- Layer 36: holds. -/
import Derived.Test.YtjdhnhfglpogmaaLawU
import Derived.Test.YtjdhnhfglpogmaaPx10
set_option linter.unusedSimpArgs false
set_option linter.unusedVariables false
namespace Go.Proofs.Ytjdhnhfglpogmaa.P
open Go Go.RowKit Go.Proofs.YtjdhnhfglpogmaaW.PrintWords Go.Proofs.YtjdhnhfglpogmaaW.PrintLast Go.Proofs.YtjdhnhfglpogmaaW.PrintMore

theorem holds_loop (out : List Bool) (seen : List S48) (day : Int) (hs : ∀ s ∈ seen, 0 ≤ s.f0 ∧ s.f0 < (out.length : Int)) (hl : seen.length ≤ 1000) : Ev (fun k => cohousinglaw36_holds.l0 k day out seen (seen.length : Int) 0) (agreesB out seen day) := by
  have h : Ev (fun k => cohousinglaw36_holds.l0 k day out seen (seen.length : Int) ((0 : Nat) : Int)) (if (List.range seen.length).all (fun i => !(decide ((rd_T48 seen i).f2 ≤ day) && (out.getD (rd_T48 seen i).f0.toNat false != (rd_T48 seen i).f1))) then true else false) := by
    refine loop_all0 (g := fun k i => cohousinglaw36_holds.l0 k day out seen (seen.length : Int) (i : Nat)) (p := fun i => !(decide ((rd_T48 seen i).f2 ≤ day) && (out.getD (rd_T48 seen i).f0.toNat false != (rd_T48 seen i).f1))) ?_ ?_ ?_
    · intro i hi hp
      have c1 : (i : Int) < (seen.length : Int) := by omega
      have c2 : 0 ≤ (i : Int) := by omega
      have hm : rd_T48 seen i ∈ seen := by simp [rd_T48, List.getD_eq_getElem?_getD, List.getElem?_eq_getElem hi]
      obtain ⟨q1, q2⟩ := hs _ hm
      simp only [Bool.not_eq_false', Bool.and_eq_true, decide_eq_true_eq] at hp
      refine Ev.ret fun k => ?_
      simp only [cohousinglaw36_holds.l0, if_pos c1, if_pos c2, if_pos hp.1, if_pos q1, if_pos q2]
      rw [if_pos (show (rdOf false out (rd_T48 seen i).f0 != (rd_T48 seen i).f1) = true from hp.2)]
    · intro i hi hp r hr
      have c1 : (i : Int) < (seen.length : Int) := by omega
      have c2 : 0 ≤ (i : Int) := by omega
      have hm : rd_T48 seen i ∈ seen := by simp [rd_T48, List.getD_eq_getElem?_getD, List.getElem?_eq_getElem hi]
      obtain ⟨q1, q2⟩ := hs _ hm
      refine Ev.step (fun k => ?_) hr
      simp only [cohousinglaw36_holds.l0, if_pos c1, if_pos c2, if_pos q1, if_pos q2]
      rw [wrapN i (by omega)]
      by_cases hd : (rd_T48 seen i).f2 ≤ day
      · rw [if_pos hd]
        simp only [decide_eq_true hd, Bool.true_and, Bool.not_eq_true'] at hp
        rw [if_neg (by rw [show (rdOf false out (rd_T48 seen i).f0 != (rd_T48 seen i).f1) = false from hp]; simp)]
      · rw [if_neg hd]
    · refine Ev.ret fun k => ?_
      simp only [cohousinglaw36_holds.l0]
      rw [if_neg (by omega)]
  have e : (if (List.range seen.length).all (fun i => !(decide ((rd_T48 seen i).f2 ≤ day) && (out.getD (rd_T48 seen i).f0.toNat false != (rd_T48 seen i).f1))) then true else false) = agreesB out seen day := by
    have h2 := all_range z48 seen (fun s => !(decide (s.f2 ≤ day) && (out.getD s.f0.toNat false != s.f1)))
    unfold agreesB
    rw [← h2]
    have h3 : (fun i : Nat => !(decide ((rd_T48 seen i).f2 ≤ day) && (out.getD (rd_T48 seen i).f0.toNat false != (rd_T48 seen i).f1))) = (fun i : Nat => !(decide ((seen.getD i z48).f2 ≤ day) && (out.getD (seen.getD i z48).f0.toNat false != (seen.getD i z48).f1))) := rfl
    rw [h3]
    cases (List.range seen.length).all (fun i => !(decide ((seen.getD i z48).f2 ≤ day) && (out.getD (seen.getD i z48).f0.toNat false != (seen.getD i z48).f1))) <;> rfl
  rw [← e]
  exact h
theorem holds_ev (l : List S44) (free : List Bool) (seen : List S48) (day : Int) (hv : validB l = true) (ho : obsB seen l.length = true) (hf : free.length = (freeOf l).length) : Ev (fun k => cohousinglaw36_holds.f k l free seen day) (agreesB (runB l free) seen day) := by
  have hrl := runB_len l free
  have h := holds_loop (runB l free) seen day (by rw [hrl]; exact obs_bound ho) (by have := obs_len ho; omega)
  have hr : runV l free = (runB l free, 0) := by
    unfold runV
    rw [hv, decide_eq_true hf]
    rfl
  have j0 : Ev (fun k => cohousinglaw36_holds.j0 k seen day (runB l free) false) (agreesB (runB l free) seen day) := by
    refine Ev.step (fun k => ?_) h
    simp only [cohousinglaw36_holds.j0, Bool.false_eq_true, if_false]
  refine Ev.congr (fun k => ?_) j0
  simp only [cohousinglaw36_holds.f, cause_Run.f, Option.bind_some, hr, if_true, hrl, bne_self_eq_false]

end Go.Proofs.Ytjdhnhfglpogmaa.P
