/- The reference functions of layer 36, each told by what it computes. -/
import Derived.Test.YtjdhnhfglpogmaaPvalid
import Derived.Test.YtjdhnhfglpogmaaXBlame
import Derived.Test.YtjdhnhfglpogmaaPx1
import Derived.Test.YtjdhnhfglpogmaaPx1
import Derived.Test.YtjdhnhfglpogmaaPx3
import Derived.Test.YtjdhnhfglpogmaaPx3
import Derived.Test.YtjdhnhfglpogmaaPx5
import Derived.Test.YtjdhnhfglpogmaaPx5
import Derived.Test.YtjdhnhfglpogmaaPx5
import Derived.Test.YtjdhnhfglpogmaaPx5
import Derived.Test.YtjdhnhfglpogmaaPx6
import Derived.Test.YtjdhnhfglpogmaaPx6
import Derived.Test.YtjdhnhfglpogmaaPx7
import Derived.Test.YtjdhnhfglpogmaaPx6
import Derived.Test.YtjdhnhfglpogmaaPx4
import Derived.Test.YtjdhnhfglpogmaaPx7
set_option linter.unusedSimpArgs false
set_option linter.unusedVariables false
namespace Go.Proofs.Ytjdhnhfglpogmaa.P
open Go.RowKit Go.Proofs.YtjdhnhfglpogmaaW.PrintWords Go.Proofs.YtjdhnhfglpogmaaW.PrintLast Go.Proofs.YtjdhnhfglpogmaaW.PrintMore

theorem free_ev (l : List S44) (hl : l.length ≤ 1000) : Ev (fun k => cohousingref36_Free.f k l) (freeOf l) := by
  have h : ∀ d i, l.length - i = d → i ≤ l.length → Ev (fun k => cohousingref36_Free.l0 k l (freeOf (l.take i)) (i : Nat)) (freeOf l) := by
    intro d
    induction d with
    | zero =>
      intro i hd hi
      obtain rfl : i = l.length := by omega
      refine Ev.ret fun k => ?_
      simp only [cohousingref36_Free.l0]
      rw [if_neg (by omega), List.take_length]
    | succ d ih =>
      intro i hd hi
      have c1 : (i : Int) < (l.length : Int) := by omega
      have c2 : 0 ≤ (i : Int) := by omega
      have hlen := freeAt_length (l.take i) 0
      have hlt := List.length_take_le i l
      have h2 := ih (i + 1) (by omega) (by omega)
      rw [freeOf_take l i (by omega)] at h2
      refine Ev.step (fun k => ?_) h2
      simp only [cohousingref36_Free.l0, if_pos c1, if_pos c2]
      by_cases h0 : (rd_T44 l i).f1.length = 0
      · rw [if_pos (by omega), if_pos (by unfold freeOf; omega), if_pos h0, wrapN i (by omega)]
      · rw [if_neg (by omega), if_neg h0, List.append_nil, wrapN i (by omega)]
  exact h l.length 0 (by omega) (by omega)

def fewB (l : List S44) (n : Nat) : Bool := decide (l.length ≤ 16) && (decide (n ≤ 110) && ((List.range l.length).all (fun i => decide ((rd_T44 l i).f1.length ≤ 8) && decide ((rd_T44 l i).f2.length ≤ 300)) && decide ((freeOf l).length ≤ 8)))
theorem few_ev (l : List S44) (seen : List S48) : Ev (fun k => cohousingref36_Few.f k l seen) (fewB l seen.length) := by
  unfold fewB
  by_cases h1 : l.length ≤ 16
  · rw [decide_eq_true h1, Bool.true_and]
    have hl0 : Ev (fun k => cohousingref36_Few.l0 k l ((0 : Nat) : Int)) (if (List.range l.length).all (fun i => decide ((rd_T44 l i).f1.length ≤ 8) && decide ((rd_T44 l i).f2.length ≤ 300)) then decide ((freeOf l).length ≤ 8) else false) := by
      refine loop_all0 (g := fun k i => cohousingref36_Few.l0 k l (i : Nat)) (p := fun i => decide ((rd_T44 l i).f1.length ≤ 8) && decide ((rd_T44 l i).f2.length ≤ 300)) ?_ ?_ ?_
      · intro i hi hp
        have c1 : (i : Int) < (l.length : Int) := by omega
        have c2 : 0 ≤ (i : Int) := by omega
        refine Ev.ret fun k => ?_
        simp only [cohousingref36_Few.l0, if_pos c1, if_pos c2]
        by_cases q : (rd_T44 l i).f1.length ≤ 8
        · rw [if_neg (by omega)]
          simp only [decide_eq_true q, Bool.true_and, decide_eq_false_iff_not] at hp
          rw [if_pos (by omega)]
        · rw [if_pos (by omega)]
      · intro i hi hp r hr
        have c1 : (i : Int) < (l.length : Int) := by omega
        have c2 : 0 ≤ (i : Int) := by omega
        simp only [Bool.and_eq_true, decide_eq_true_eq] at hp
        refine Ev.step (fun k => ?_) hr
        simp only [cohousingref36_Few.l0, if_pos c1, if_pos c2]
        rw [if_neg (by omega), if_neg (by omega), wrapN i (by omega)]
      · have hf := free_ev l (by omega)
        refine Ev.step (fun k => ?_) (Ev.bind (f := fun _ t => some (decide ((t.length : Int) ≤ 8))) hf (by
          have e : decide (((freeOf l).length : Int) ≤ 8) = decide ((freeOf l).length ≤ 8) := by simp; omega
          rw [e]
          exact Ev.now _))
        simp only [cohousingref36_Few.l0]
        rw [if_neg (by omega)]
    have e : ((List.range l.length).all (fun i => decide ((rd_T44 l i).f1.length ≤ 8) && decide ((rd_T44 l i).f2.length ≤ 300)) && decide ((freeOf l).length ≤ 8)) = (if (List.range l.length).all (fun i => decide ((rd_T44 l i).f1.length ≤ 8) && decide ((rd_T44 l i).f2.length ≤ 300)) then decide ((freeOf l).length ≤ 8) else false) := by
      cases (List.range l.length).all (fun i => decide ((rd_T44 l i).f1.length ≤ 8) && decide ((rd_T44 l i).f2.length ≤ 300)) <;> rfl
    rw [e]
    by_cases h2 : seen.length ≤ 110
    · rw [decide_eq_true h2, Bool.true_and]
      have hj : Ev (fun k => cohousingref36_Few.j0 k l false) _ := Ev.step (fun k => by simp only [cohousingref36_Few.j0, Bool.false_eq_true, if_false]; rfl) hl0
      refine Ev.congr (fun k => ?_) hj
      simp only [cohousingref36_Few.f]
      rw [if_neg (by omega), decide_eq_false (by omega)]
    · rw [decide_eq_false h2, Bool.false_and]
      refine Ev.congr (f := fun k => cohousingref36_Few.j0 k l true) (fun k => ?_) (Ev.ret fun k => by simp only [cohousingref36_Few.j0, if_true])
      simp only [cohousingref36_Few.f]
      rw [if_neg (by omega), decide_eq_true (by omega)]
  · rw [decide_eq_false h1, Bool.false_and]
    refine Ev.congr (f := fun k => cohousingref36_Few.j0 k l true) (fun k => ?_) (Ev.ret fun k => by simp only [cohousingref36_Few.j0, if_true])
    simp only [cohousingref36_Few.f]
    rw [if_pos (by omega)]

theorem day_ev (d : Int) : cohousingref36_Day.f d = some (dayB d) := by
  unfold cohousingref36_Day.f dayB
  by_cases h : 0 ≤ d
  · rw [if_pos h]; simp [h]
  · rw [if_neg h]; simp [h]
theorem oddB_eq (n : Nat) (s : S48) : oddB n s = !(decide (0 ≤ s.f0) && (decide (s.f0 < (n : Int)) && dayB s.f2)) := by
  unfold oddB
  by_cases h1 : s.f0 < 0
  · have h2 : ¬ 0 ≤ s.f0 := by omega
    simp [h1, h2]
  · have h2 : 0 ≤ s.f0 := by omega
    by_cases h3 : (n : Int) ≤ s.f0
    · have h4 : ¬ s.f0 < (n : Int) := by omega
      simp [h1, h2, h3, h4]
    · have h4 : s.f0 < (n : Int) := by omega
      simp [h1, h2, h3, h4]
def obsB (seen : List S48) (n : Nat) : Bool := decide (seen.length ≤ 100) && !(seen.any (oddB n))
theorem all_range {α : Type} (z : α) (l : List α) (p : α → Bool) : (List.range l.length).all (fun i => p (l.getD i z)) = l.all p := by
  rw [Bool.eq_iff_iff, List.all_eq_true, List.all_eq_true]
  constructor
  · intro h x hx
    obtain ⟨i, hi⟩ := List.getElem?_of_mem hx
    have hlt := (List.getElem?_eq_some_iff.1 hi).1
    have := h i (by simpa using hlt)
    rwa [List.getD_eq_getElem?_getD, hi] at this
  · intro h i hi
    have hlt : i < l.length := by simpa using hi
    rw [List.getD_eq_getElem?_getD, List.getElem?_eq_getElem hlt]
    exact h _ (List.getElem_mem hlt)
theorem obs_ev (seen : List S48) (n : Nat) : Ev (fun k => cohousingref36_Observations.f k seen n) (obsB seen n) := by
  unfold obsB
  by_cases h1 : seen.length ≤ 100
  · rw [decide_eq_true h1, Bool.true_and]
    have hl0 : Ev (fun k => cohousingref36_Observations.l0 k seen n ((0 : Nat) : Int)) (if (List.range seen.length).all (fun i => !(oddB n (rd_T48 seen i))) then true else false) := by
      refine loop_all0 (g := fun k i => cohousingref36_Observations.l0 k seen n (i : Nat)) (p := fun i => !(oddB n (rd_T48 seen i))) ?_ ?_ ?_
      · intro i hi hp
        have c1 : (i : Int) < (seen.length : Int) := by omega
        have c2 : 0 ≤ (i : Int) := by omega
        rw [oddB_eq, Bool.not_not] at hp
        refine Ev.ret fun k => ?_
        simp only [cohousingref36_Observations.l0, if_pos c1, if_pos c2, day_ev, Option.bind_some]
        by_cases q1 : 0 ≤ (rd_T48 seen i).f0
        · rw [if_neg (by omega)]
          by_cases q2 : (rd_T48 seen i).f0 < (n : Int)
          · rw [if_neg (by omega)]
            simp only [decide_eq_true q1, decide_eq_true q2, Bool.true_and] at hp
            rw [hp]
            rfl
          · rw [if_pos (by omega)]
        · rw [if_pos (by omega)]
      · intro i hi hp r hr
        have c1 : (i : Int) < (seen.length : Int) := by omega
        have c2 : 0 ≤ (i : Int) := by omega
        rw [oddB_eq, Bool.not_not] at hp
        simp only [Bool.and_eq_true, decide_eq_true_eq] at hp
        refine Ev.step (fun k => ?_) hr
        simp only [cohousingref36_Observations.l0, if_pos c1, if_pos c2, day_ev, Option.bind_some]
        rw [if_neg (by omega), if_neg (by omega), if_pos hp.2.2, wrapN i (by omega)]
      · refine Ev.ret fun k => ?_
        simp only [cohousingref36_Observations.l0]
        rw [if_neg (by omega)]
    have e : (if (List.range seen.length).all (fun i => !(oddB n (rd_T48 seen i))) then true else false) = !(seen.any (oddB n)) := by
      have h2 := all_range z48 seen (fun s => !(oddB n s))
      have h3 : (fun i : Nat => !(oddB n (rd_T48 seen i))) = (fun i : Nat => (fun s => !(oddB n s)) (seen.getD i z48)) := rfl
      rw [h3, h2, List.any_eq_not_all_not, Bool.not_not]
      cases seen.all (fun s => !(oddB n s)) <;> rfl
    rw [← e]
    refine Ev.congr (fun k => ?_) hl0
    simp only [cohousingref36_Observations.f]
    rw [if_neg (by omega)]
    rfl
  · rw [decide_eq_false h1, Bool.false_and]
    refine ⟨0, fun k _ => ?_⟩
    simp only [cohousingref36_Observations.f]
    rw [if_pos (by omega)]

theorem same_bools_ev (a b : List Bool) (ha : a.length ≤ 9223372036854775807) : Ev (fun k => cohousingref36_SameBools.f k a b) (decide (a = b)) := by
  by_cases hl : a.length = b.length
  · have h : Ev (fun k => cohousingref36_SameBools.l0 k a b ((0 : Nat) : Int)) (if (List.range a.length).all (fun i => a.getD i false == b.getD i false) then true else false) := by
      refine loop_all0 (g := fun k i => cohousingref36_SameBools.l0 k a b (i : Nat)) (p := fun i => a.getD i false == b.getD i false) ?_ ?_ ?_
      · intro i hi hp
        have c1 : (i : Int) < (a.length : Int) := by omega
        have c2 : 0 ≤ (i : Int) := by omega
        have c3 : (i : Int) < (b.length : Int) := by omega
        refine Ev.ret fun k => ?_
        simp only [cohousingref36_SameBools.l0, if_pos c1, if_pos c2, if_pos c3]
        rw [if_pos (show (rdOf false a (i : Int) != rdOf false b (i : Int)) = true from by show (!(a.getD i false == b.getD i false)) = true; rw [hp]; rfl)]
      · intro i hi hp r hr
        have c1 : (i : Int) < (a.length : Int) := by omega
        have c2 : 0 ≤ (i : Int) := by omega
        have c3 : (i : Int) < (b.length : Int) := by omega
        refine Ev.step (fun k => ?_) hr
        simp only [cohousingref36_SameBools.l0, if_pos c1, if_pos c2, if_pos c3]
        rw [if_neg (show ¬ (rdOf false a (i : Int) != rdOf false b (i : Int)) = true from by show ¬ (!(a.getD i false == b.getD i false)) = true; rw [hp]; decide), wrapN i (by omega)]
      · refine Ev.ret fun k => ?_
        simp only [cohousingref36_SameBools.l0]
        rw [if_neg (by omega)]
    have e : (if (List.range a.length).all (fun i => a.getD i false == b.getD i false) then true else false) = decide (a = b) := by
      rw [Bool.eq_iff_iff, decide_eq_true_eq]
      constructor
      · intro h
        have h2 : (List.range a.length).all (fun i => a.getD i false == b.getD i false) = true := by
          cases hc : (List.range a.length).all (fun i => a.getD i false == b.getD i false)
          · rw [hc] at h; simp at h
          · rfl
        refine List.ext_getElem hl (fun i h1 h3 => ?_)
        have := List.all_eq_true.1 h2 i (by simpa using h1)
        simp only [beq_iff_eq, List.getD_eq_getElem?_getD, List.getElem?_eq_getElem h1, List.getElem?_eq_getElem h3, Option.getD_some] at this
        exact this
      · rintro rfl
        have : (List.range a.length).all (fun i => a.getD i false == a.getD i false) = true := List.all_eq_true.2 (fun i _ => by simp)
        rw [this]
        rfl
    rw [← e]
    refine Ev.congr (fun k => ?_) h
    simp only [cohousingref36_SameBools.f]
    rw [if_pos (by omega)]
    rfl
  · rw [decide_eq_false (fun h => hl (by rw [h]))]
    refine ⟨0, fun k _ => ?_⟩
    simp only [cohousingref36_SameBools.f]
    rw [if_neg (by omega)]
theorem same_ints_ev (a b : List Int) (ha : a.length ≤ 9223372036854775807) : Ev (fun k => cohousingref36_SameInts.f k a b) (decide (a = b)) := by
  by_cases hl : a.length = b.length
  · have h : Ev (fun k => cohousingref36_SameInts.l0 k a b ((0 : Nat) : Int)) (if (List.range a.length).all (fun i => a.getD i 0 == b.getD i 0) then true else false) := by
      refine loop_all0 (g := fun k i => cohousingref36_SameInts.l0 k a b (i : Nat)) (p := fun i => a.getD i 0 == b.getD i 0) ?_ ?_ ?_
      · intro i hi hp
        have c1 : (i : Int) < (a.length : Int) := by omega
        have c2 : 0 ≤ (i : Int) := by omega
        have c3 : (i : Int) < (b.length : Int) := by omega
        refine Ev.ret fun k => ?_
        simp only [cohousingref36_SameInts.l0, if_pos c1, if_pos c2, if_pos c3]
        rw [if_neg (show ¬ rd a (i : Int) = rd b (i : Int) from by show ¬ a.getD i 0 = b.getD i 0; exact beq_eq_false_iff_ne.1 hp)]
      · intro i hi hp r hr
        have c1 : (i : Int) < (a.length : Int) := by omega
        have c2 : 0 ≤ (i : Int) := by omega
        have c3 : (i : Int) < (b.length : Int) := by omega
        refine Ev.step (fun k => ?_) hr
        simp only [cohousingref36_SameInts.l0, if_pos c1, if_pos c2, if_pos c3]
        rw [if_pos (show rd a (i : Int) = rd b (i : Int) from by show a.getD i 0 = b.getD i 0; exact beq_iff_eq.1 hp), wrapN i (by omega)]
      · refine Ev.ret fun k => ?_
        simp only [cohousingref36_SameInts.l0]
        rw [if_neg (by omega)]
    have e : (if (List.range a.length).all (fun i => a.getD i 0 == b.getD i 0) then true else false) = decide (a = b) := by
      rw [Bool.eq_iff_iff, decide_eq_true_eq]
      constructor
      · intro h
        have h2 : (List.range a.length).all (fun i => a.getD i 0 == b.getD i 0) = true := by
          cases hc : (List.range a.length).all (fun i => a.getD i 0 == b.getD i 0)
          · rw [hc] at h; simp at h
          · rfl
        refine List.ext_getElem hl (fun i h1 h3 => ?_)
        have := List.all_eq_true.1 h2 i (by simpa using h1)
        simp only [beq_iff_eq, List.getD_eq_getElem?_getD, List.getElem?_eq_getElem h1, List.getElem?_eq_getElem h3, Option.getD_some] at this
        exact this
      · rintro rfl
        have : (List.range a.length).all (fun i => a.getD i 0 == a.getD i 0) = true := List.all_eq_true.2 (fun i _ => by simp)
        rw [this]
        rfl
    rw [← e]
    refine Ev.congr (fun k => ?_) h
    simp only [cohousingref36_SameInts.f]
    rw [if_pos (by omega)]
    rfl
  · rw [decide_eq_false (fun h => hl (by rw [h]))]
    refine ⟨0, fun k _ => ?_⟩
    simp only [cohousingref36_SameInts.f]
    rw [if_neg (by omega)]
theorem same_states_refl (a : List (List Bool)) (ha : a.length ≤ 9223372036854775807) (hb : ∀ x ∈ a, x.length ≤ 9223372036854775807) : Ev (fun k => cohousingref36_SameStates.f k a a) true := by
  have h : Ev (fun k => cohousingref36_SameStates.l0 k a a ((0 : Nat) : Int)) (if (List.range a.length).all (fun _ => true) then true else false) := by
    refine loop_all0 (g := fun k i => cohousingref36_SameStates.l0 k a a (i : Nat)) (p := fun _ => true) (fun i hi hp => by cases hp) ?_ ?_
    · intro i hi hp r hr
      have c1 : (i : Int) < (a.length : Int) := by omega
      have c2 : 0 ≤ (i : Int) := by omega
      have hm : rd_L3 a i ∈ a := by simp [rd_L3, List.getD_eq_getElem?_getD, List.getElem?_eq_getElem hi]
      have hs := same_bools_ev (rd_L3 a i) (rd_L3 a i) (hb _ hm)
      rw [decide_eq_true rfl] at hs
      refine Ev.step (fun k => ?_) (Ev.bind (f := fun k t => if t = true then cohousingref36_SameStates.l0 k a a ((i + 1 : Nat) : Int) else some false) hs (by simpa using hr))
      simp only [cohousingref36_SameStates.l0, if_pos c1, if_pos c2]
      rw [wrapN i (by omega)]
    · refine Ev.ret fun k => ?_
      simp only [cohousingref36_SameStates.l0]
      rw [if_neg (by omega)]
  have e : (if (List.range a.length).all (fun _ => true) then true else false) = true := by simp
  rw [e] at h
  refine Ev.congr (fun k => ?_) h
  simp only [cohousingref36_SameStates.f, if_true]
  rfl
end Go.Proofs.Ytjdhnhfglpogmaa.P
