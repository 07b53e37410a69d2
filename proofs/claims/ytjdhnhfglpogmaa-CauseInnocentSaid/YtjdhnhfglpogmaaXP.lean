/- The reference functions of layer 36, each told by what it computes. -/
import Derived.Test.YtjdhnhfglpogmaaXC
import Derived.Test.YtjdhnhfglpogmaaPx1
import Derived.Test.YtjdhnhfglpogmaaPx1
import Derived.Test.YtjdhnhfglpogmaaPx3
import Derived.Test.YtjdhnhfglpogmaaPx3
import Derived.Test.YtjdhnhfglpogmaaPx5
import Derived.Test.YtjdhnhfglpogmaaPx5
import Derived.Test.YtjdhnhfglpogmaaPx5
import Derived.Test.YtjdhnhfglpogmaaPx5
import Derived.Test.YtjdhnhfglpogmaaPx6
import Derived.Test.YtjdhnhfglpogmaaPx6
import Derived.Test.YtjdhnhfglpogmaaPx7
import Derived.Test.YtjdhnhfglpogmaaPx6
import Derived.Test.YtjdhnhfglpogmaaPx4
import Derived.Test.YtjdhnhfglpogmaaPx7
set_option linter.unusedSimpArgs false
set_option linter.unusedVariables false
namespace Go.Proofs.Ytjdhnhfglpogmaa.P
open Go.RowKit Go.Proofs.YtjdhnhfglpogmaaW.PrintWords Go.Proofs.YtjdhnhfglpogmaaW.PrintLast Go.Proofs.YtjdhnhfglpogmaaW.PrintMore

theorem free_ev (l : List S44) (hl : l.length ≤ 1000) : Ev (fun k => cohousingref36_Free.f k l) (freeOf l) := by
  have h : ∀ d i, l.length - i = d → i ≤ l.length → Ev (fun k => cohousingref36_Free.l0 k l (freeOf (l.take i)) (i : Nat)) (freeOf l) := by
    intro d
    induction d with
    | zero =>
      intro i hd hi
      obtain rfl : i = l.length := by omega
      refine Ev.ret fun k => ?_
      simp only [cohousingref36_Free.l0]
      rw [if_neg (by omega), List.take_length]
    | succ d ih =>
      intro i hd hi
      have c1 : (i : Int) < (l.length : Int) := by omega
      have c2 : 0 ≤ (i : Int) := by omega
      have hlen := freeAt_length (l.take i) 0
      have hlt := List.length_take_le i l
      have h2 := ih (i + 1) (by omega) (by omega)
      rw [freeOf_take l i (by omega)] at h2
      refine Ev.step (fun k => ?_) h2
      simp only [cohousingref36_Free.l0, if_pos c1, if_pos c2]
      by_cases h0 : (rd_T44 l i).f1.length = 0
      · rw [if_pos (by omega), if_pos (by unfold freeOf; omega), if_pos h0, wrapN i (by omega)]
      · rw [if_neg (by omega), if_neg h0, List.append_nil, wrapN i (by omega)]
  exact h l.length 0 (by omega) (by omega)

def fewB (l : List S44) (n : Nat) : Bool := decide (l.length ≤ 16) && (decide (n ≤ 110) && ((List.range l.length).all (fun i => decide ((rd_T44 l i).f1.length ≤ 8) && decide ((rd_T44 l i).f2.length ≤ 300)) && decide ((freeOf l).length ≤ 8)))
theorem few_ev (l : List S44) (seen : List S48) : Ev (fun k => cohousingref36_Few.f k l seen) (fewB l seen.length) := by
  unfold fewB
  by_cases h1 : l.length ≤ 16
  · rw [decide_eq_true h1, Bool.true_and]
    have hl0 : Ev (fun k => cohousingref36_Few.l0 k l ((0 : Nat) : Int)) (if (List.range l.length).all (fun i => decide ((rd_T44 l i).f1.length ≤ 8) && decide ((rd_T44 l i).f2.length ≤ 300)) then decide ((freeOf l).length ≤ 8) else false) := by
      refine loop_all0 (g := fun k i => cohousingref36_Few.l0 k l (i : Nat)) (p := fun i => decide ((rd_T44 l i).f1.length ≤ 8) && decide ((rd_T44 l i).f2.length ≤ 300)) ?_ ?_ ?_
      · intro i hi hp
        have c1 : (i : Int) < (l.length : Int) := by omega
        have c2 : 0 ≤ (i : Int) := by omega
        refine Ev.ret fun k => ?_
        simp only [cohousingref36_Few.l0, if_pos c1, if_pos c2]
        by_cases q : (rd_T44 l i).f1.length ≤ 8
        · rw [if_neg (by omega)]
          simp only [decide_eq_true q, Bool.true_and, decide_eq_false_iff_not] at hp
          rw [if_pos (by omega)]
        · rw [if_pos (by omega)]
      · intro i hi hp r hr
        have c1 : (i : Int) < (l.length : Int) := by omega
        have c2 : 0 ≤ (i : Int) := by omega
        simp only [Bool.and_eq_true, decide_eq_true_eq] at hp
        refine Ev.step (fun k => ?_) hr
        simp only [cohousingref36_Few.l0, if_pos c1, if_pos c2]
        rw [if_neg (by omega), if_neg (by omega), wrapN i (by omega)]
      · have hf := free_ev l (by omega)
        refine Ev.step (fun k => ?_) (Ev.bind (f := fun _ t => some (decide ((t.length : Int) ≤ 8))) hf (by
          have e : decide (((freeOf l).length : Int) ≤ 8) = decide ((freeOf l).length ≤ 8) := by simp; omega
          rw [e]
          exact Ev.now _))
        simp only [cohousingref36_Few.l0]
        rw [if_neg (by omega)]
    have e : ((List.range l.length).all (fun i => decide ((rd_T44 l i).f1.length ≤ 8) && decide ((rd_T44 l i).f2.length ≤ 300)) && decide ((freeOf l).length ≤ 8)) = (if (List.range l.length).all (fun i => decide ((rd_T44 l i).f1.length ≤ 8) && decide ((rd_T44 l i).f2.length ≤ 300)) then decide ((freeOf l).length ≤ 8) else false) := by
      cases (List.range l.length).all (fun i => decide ((rd_T44 l i).f1.length ≤ 8) && decide ((rd_T44 l i).f2.length ≤ 300)) <;> rfl
    rw [e]
    by_cases h2 : seen.length ≤ 110
    · rw [decide_eq_true h2, Bool.true_and]
      have hj : Ev (fun k => cohousingref36_Few.j0 k l false) _ := Ev.step (fun k => by simp only [cohousingref36_Few.j0, Bool.false_eq_true, if_false]; rfl) hl0
      refine Ev.congr (fun k => ?_) hj
      simp only [cohousingref36_Few.f]
      rw [if_neg (by omega), decide_eq_false (by omega)]
    · rw [decide_eq_false h2, Bool.false_and]
      refine Ev.congr (f := fun k => cohousingref36_Few.j0 k l true) (fun k => ?_) (Ev.ret fun k => by simp only [cohousingref36_Few.j0, if_true])
      simp only [cohousingref36_Few.f]
      rw [if_neg (by omega), decide_eq_true (by omega)]
  · rw [decide_eq_false h1, Bool.false_and]
    refine Ev.congr (f := fun k => cohousingref36_Few.j0 k l true) (fun k => ?_) (Ev.ret fun k => by simp only [cohousingref36_Few.j0, if_true])
    simp only [cohousingref36_Few.f]
    rw [if_pos (by omega)]

theorem day_ev (d : Int) : cohousingref36_Day.f d = some (dayB d) := by
  unfold cohousingref36_Day.f dayB
  by_cases h : 0 ≤ d
  · rw [if_pos h]; simp [h]
  · rw [if_neg h]; simp [h]
theorem oddB_eq (n : Nat) (s : S48) : oddB n s = !(decide (0 ≤ s.f0) && (decide (s.f0 < (n : Int)) && dayB s.f2)) := by
  unfold oddB
  by_cases h1 : s.f0 < 0
  · have h2 : ¬ 0 ≤ s.f0 := by omega
    simp [h1, h2]
  · have h2 : 0 ≤ s.f0 := by omega
    by_cases h3 : (n : Int) ≤ s.f0
    · have h4 : ¬ s.f0 < (n : Int) := by omega
      simp [h1, h2, h3, h4]
    · have h4 : s.f0 < (n : Int) := by omega
      simp [h1, h2, h3, h4]
def obsB (seen : List S48) (n : Nat) : Bool := decide (seen.length ≤ 100) && !(seen.any (oddB n))
theorem all_range {α : Type} (z : α) (l : List α) (p : α → Bool) : (List.range l.length).all (fun i => p (l.getD i z)) = l.all p := by
  rw [Bool.eq_iff_iff, List.all_eq_true, List.all_eq_true]
  constructor
  · intro h x hx
    obtain ⟨i, hi⟩ := List.getElem?_of_mem hx
    have hlt := (List.getElem?_eq_some_iff.1 hi).1
    have := h i (by simpa using hlt)
    rwa [List.getD_eq_getElem?_getD, hi] at this
  · intro h i hi
    have hlt : i < l.length := by simpa using hi
    rw [List.getD_eq_getElem?_getD, List.getElem?_eq_getElem hlt]
    exact h _ (List.getElem_mem hlt)
theorem obs_ev (seen : List S48) (n : Nat) : Ev (fun k => cohousingref36_Observations.f k seen n) (obsB seen n) := by
  unfold obsB
  by_cases h1 : seen.length ≤ 100
  · rw [decide_eq_true h1, Bool.true_and]
    have hl0 : Ev (fun k => cohousingref36_Observations.l0 k seen n ((0 : Nat) : Int)) (if (List.range seen.length).all (fun i => !(oddB n (rd_T48 seen i))) then true else false) := by
      refine loop_all0 (g := fun k i => cohousingref36_Observations.l0 k seen n (i : Nat)) (p := fun i => !(oddB n (rd_T48 seen i))) ?_ ?_ ?_
      · intro i hi hp
        have c1 : (i : Int) < (seen.length : Int) := by omega
        have c2 : 0 ≤ (i : Int) := by omega
        rw [oddB_eq, Bool.not_not] at hp
        refine Ev.ret fun k => ?_
        simp only [cohousingref36_Observations.l0, if_pos c1, if_pos c2, day_ev, Option.bind_some]
        by_cases q1 : 0 ≤ (rd_T48 seen i).f0
        · rw [if_neg (by omega)]
          by_cases q2 : (rd_T48 seen i).f0 < (n : Int)
          · rw [if_neg (by omega)]
            simp only [decide_eq_true q1, decide_eq_true q2, Bool.true_and] at hp
            rw [hp]
            rfl
          · rw [if_pos (by omega)]
        · rw [if_pos (by omega)]
      · intro i hi hp r hr
        have c1 : (i : Int) < (seen.length : Int) := by omega
        have c2 : 0 ≤ (i : Int) := by omega
        rw [oddB_eq, Bool.not_not] at hp
        simp only [Bool.and_eq_true, decide_eq_true_eq] at hp
        refine Ev.step (fun k => ?_) hr
        simp only [cohousingref36_Observations.l0, if_pos c1, if_pos c2, day_ev, Option.bind_some]
        rw [if_neg (by omega), if_neg (by omega), if_pos hp.2.2, wrapN i (by omega)]
      · refine Ev.ret fun k => ?_
        simp only [cohousingref36_Observations.l0]
        rw [if_neg (by omega)]
    have e : (if (List.range seen.length).all (fun i => !(oddB n (rd_T48 seen i))) then true else false) = !(seen.any (oddB n)) := by
      have h2 := all_range z48 seen (fun s => !(oddB n s))
      have h3 : (fun i : Nat => !(oddB n (rd_T48 seen i))) = (fun i : Nat => (fun s => !(oddB n s)) (seen.getD i z48)) := rfl
      rw [h3, h2, List.any_eq_not_all_not, Bool.not_not]
      cases seen.all (fun s => !(oddB n s)) <;> rfl
    rw [← e]
    refine Ev.congr (fun k => ?_) hl0
    simp only [cohousingref36_Observations.f]
    rw [if_neg (by omega)]
    rfl
  · rw [decide_eq_false h1, Bool.false_and]
    refine ⟨0, fun k _ => ?_⟩
    simp only [cohousingref36_Observations.f]
    rw [if_pos (by omega)]

theorem same_bools_ev (a b : List Bool) (ha : a.length ≤ 9223372036854775807) : Ev (fun k => cohousingref36_SameBools.f k a b) (decide (a = b)) := by
  by_cases hl : a.length = b.length
  · have h : Ev (fun k => cohousingref36_SameBools.l0 k a b ((0 : Nat) : Int)) (if (List.range a.length).all (fun i => a.getD i false == b.getD i false) then true else false) := by
      refine loop_all0 (g := fun k i => cohousingref36_SameBools.l0 k a b (i : Nat)) (p := fun i => a.getD i false == b.getD i false) ?_ ?_ ?_
      · intro i hi hp
        have c1 : (i : Int) < (a.length : Int) := by omega
        have c2 : 0 ≤ (i : Int) := by omega
        have c3 : (i : Int) < (b.length : Int) := by omega
        refine Ev.ret fun k => ?_
        simp only [cohousingref36_SameBools.l0, if_pos c1, if_pos c2, if_pos c3]
        rw [if_pos (show (rdOf false a (i : Int) != rdOf false b (i : Int)) = true from by show (!(a.getD i false == b.getD i false)) = true; rw [hp]; rfl)]
      · intro i hi hp r hr
        have c1 : (i : Int) < (a.length : Int) := by omega
        have c2 : 0 ≤ (i : Int) := by omega
        have c3 : (i : Int) < (b.length : Int) := by omega
        refine Ev.step (fun k => ?_) hr
        simp only [cohousingref36_SameBools.l0, if_pos c1, if_pos c2, if_pos c3]
        rw [if_neg (show ¬ (rdOf false a (i : Int) != rdOf false b (i : Int)) = true from by show ¬ (!(a.getD i false == b.getD i false)) = true; rw [hp]; decide), wrapN i (by omega)]
      · refine Ev.ret fun k => ?_
        simp only [cohousingref36_SameBools.l0]
        rw [if_neg (by omega)]
    have e : (if (List.range a.length).all (fun i => a.getD i false == b.getD i false) then true else false) = decide (a = b) := by
      rw [Bool.eq_iff_iff, decide_eq_true_eq]
      constructor
      · intro h
        have h2 : (List.range a.length).all (fun i => a.getD i false == b.getD i false) = true := by
          cases hc : (List.range a.length).all (fun i => a.getD i false == b.getD i false)
          · rw [hc] at h; simp at h
          · rfl
        refine List.ext_getElem hl (fun i h1 h3 => ?_)
        have := List.all_eq_true.1 h2 i (by simpa using h1)
        simp only [beq_iff_eq, List.getD_eq_getElem?_getD, List.getElem?_eq_getElem h1, List.getElem?_eq_getElem h3, Option.getD_some] at this
        exact this
      · rintro rfl
        have : (List.range a.length).all (fun i => a.getD i false == a.getD i false) = true := List.all_eq_true.2 (fun i _ => by simp)
        rw [this]
        rfl
    rw [← e]
    refine Ev.congr (fun k => ?_) h
    simp only [cohousingref36_SameBools.f]
    rw [if_pos (by omega)]
    rfl
  · rw [decide_eq_false (fun h => hl (by rw [h]))]
    refine ⟨0, fun k _ => ?_⟩
    simp only [cohousingref36_SameBools.f]
    rw [if_neg (by omega)]
theorem same_ints_ev (a b : List Int) (ha : a.length ≤ 9223372036854775807) : Ev (fun k => cohousingref36_SameInts.f k a b) (decide (a = b)) := by
  by_cases hl : a.length = b.length
  · have h : Ev (fun k => cohousingref36_SameInts.l0 k a b ((0 : Nat) : Int)) (if (List.range a.length).all (fun i => a.getD i 0 == b.getD i 0) then true else false) := by
      refine loop_all0 (g := fun k i => cohousingref36_SameInts.l0 k a b (i : Nat)) (p := fun i => a.getD i 0 == b.getD i 0) ?_ ?_ ?_
      · intro i hi hp
        have c1 : (i : Int) < (a.length : Int) := by omega
        have c2 : 0 ≤ (i : Int) := by omega
        have c3 : (i : Int) < (b.length : Int) := by omega
        refine Ev.ret fun k => ?_
        simp only [cohousingref36_SameInts.l0, if_pos c1, if_pos c2, if_pos c3]
        rw [if_neg (show ¬ rd a (i : Int) = rd b (i : Int) from by show ¬ a.getD i 0 = b.getD i 0; exact beq_eq_false_iff_ne.1 hp)]
      · intro i hi hp r hr
        have c1 : (i : Int) < (a.length : Int) := by omega
        have c2 : 0 ≤ (i : Int) := by omega
        have c3 : (i : Int) < (b.length : Int) := by omega
        refine Ev.step (fun k => ?_) hr
        simp only [cohousingref36_SameInts.l0, if_pos c1, if_pos c2, if_pos c3]
        rw [if_pos (show rd a (i : Int) = rd b (i : Int) from by show a.getD i 0 = b.getD i 0; exact beq_iff_eq.1 hp), wrapN i (by omega)]
      · refine Ev.ret fun k => ?_
        simp only [cohousingref36_SameInts.l0]
        rw [if_neg (by omega)]
    have e : (if (List.range a.length).all (fun i => a.getD i 0 == b.getD i 0) then true else false) = decide (a = b) := by
      rw [Bool.eq_iff_iff, decide_eq_true_eq]
      constructor
      · intro h
        have h2 : (List.range a.length).all (fun i => a.getD i 0 == b.getD i 0) = true := by
          cases hc : (List.range a.length).all (fun i => a.getD i 0 == b.getD i 0)
          · rw [hc] at h; simp at h
          · rfl
        refine List.ext_getElem hl (fun i h1 h3 => ?_)
        have := List.all_eq_true.1 h2 i (by simpa using h1)
        simp only [beq_iff_eq, List.getD_eq_getElem?_getD, List.getElem?_eq_getElem h1, List.getElem?_eq_getElem h3, Option.getD_some] at this
        exact this
      · rintro rfl
        have : (List.range a.length).all (fun i => a.getD i 0 == a.getD i 0) = true := List.all_eq_true.2 (fun i _ => by simp)
        rw [this]
        rfl
    rw [← e]
    refine Ev.congr (fun k => ?_) h
    simp only [cohousingref36_SameInts.f]
    rw [if_pos (by omega)]
    rfl
  · rw [decide_eq_false (fun h => hl (by rw [h]))]
    refine ⟨0, fun k _ => ?_⟩
    simp only [cohousingref36_SameInts.f]
    rw [if_neg (by omega)]
theorem same_states_refl (a : List (List Bool)) (ha : a.length ≤ 9223372036854775807) (hb : ∀ x ∈ a, x.length ≤ 9223372036854775807) : Ev (fun k => cohousingref36_SameStates.f k a a) true := by
  have h : Ev (fun k => cohousingref36_SameStates.l0 k a a ((0 : Nat) : Int)) (if (List.range a.length).all (fun _ => true) then true else false) := by
    refine loop_all0 (g := fun k i => cohousingref36_SameStates.l0 k a a (i : Nat)) (p := fun _ => true) (fun i hi hp => by cases hp) ?_ ?_
    · intro i hi hp r hr
      have c1 : (i : Int) < (a.length : Int) := by omega
      have c2 : 0 ≤ (i : Int) := by omega
      have hm : rd_L3 a i ∈ a := by simp [rd_L3, List.getD_eq_getElem?_getD, List.getElem?_eq_getElem hi]
      have hs := same_bools_ev (rd_L3 a i) (rd_L3 a i) (hb _ hm)
      rw [decide_eq_true rfl] at hs
      refine Ev.step (fun k => ?_) (Ev.bind (f := fun k t => if t = true then cohousingref36_SameStates.l0 k a a ((i + 1 : Nat) : Int) else some false) hs (by simpa using hr))
      simp only [cohousingref36_SameStates.l0, if_pos c1, if_pos c2]
      rw [wrapN i (by omega)]
    · refine Ev.ret fun k => ?_
      simp only [cohousingref36_SameStates.l0]
      rw [if_neg (by omega)]
  have e : (if (List.range a.length).all (fun _ => true) then true else false) = true := by simp
  rw [e] at h
  refine Ev.congr (fun k => ?_) h
  simp only [cohousingref36_SameStates.f, if_true]
  rfl
end Go.Proofs.Ytjdhnhfglpogmaa.P
/- The reference functions of layer 36, continued: run, Run, States, Blame. -/
set_option linter.unusedSimpArgs false
set_option linter.unusedVariables false
namespace Go.Proofs.Ytjdhnhfglpogmaa.P
open Go.RowKit Go.Proofs.YtjdhnhfglpogmaaW.PrintWords Go.Proofs.YtjdhnhfglpogmaaW.PrintLast Go.Proofs.YtjdhnhfglpogmaaW.PrintMore

theorem atF_lt (b : Int → Bool) (ps : List Int) : ∀ j, atF b ps j < 2 ^ j
  | 0 => by simp [atF]
  | j + 1 => or_lt (Nat.lt_of_lt_of_le (atF_lt b ps j) (Nat.pow_le_pow_right (by omega) (by omega))) (ite_lt (by omega))
theorem or_add {a j : Nat} (h : a < 2 ^ j) : a ||| 2 ^ j = a + 2 ^ j := by
  have h1 := Nat.two_pow_add_eq_or_of_lt h 1
  rw [Nat.mul_one] at h1
  rw [Nat.or_comm, ← h1, Nat.add_comm]
theorem runB_len_take (l : List S44) (free : List Bool) (i : Nat) (hi : i ≤ l.length) : (runB (l.take i) free).length = i := by rw [runB_len, List.length_take]; omega

theorem run_ev (l : List S44) (hb : Back l) (hok : ∀ v ∈ l, VarOk v) (hl : l.length ≤ 12) (free : List Bool) (hf : free.length = (freeOf l).length) : Ev (fun k => cohousingref36_run.f k l free) (runB l free) := by
  have hfl : (freeOf l).length ≤ 12 := Nat.le_trans (freeAt_length l 0) hl
  have h : ∀ d i, l.length - i = d → i ≤ l.length → Ev (fun k => cohousingref36_run.l0 k l free (runB (l.take i) free) ((freeOf (l.take i)).length : Nat) (i : Nat)) (runB l free) := by
    intro d
    induction d with
    | zero =>
      intro i hd hi
      obtain rfl : i = l.length := by omega
      refine Ev.ret fun k => ?_
      simp only [cohousingref36_run.l0]
      rw [if_neg (by omega), List.take_length]
    | succ d ih =>
      intro i hd hi
      have c1 : (i : Int) < (l.length : Int) := by omega
      have c2 : 0 ≤ (i : Int) := by omega
      have hlen := runB_len_take l free i hi
      have hul : (freeOf (l.take i)).length ≤ 12 := Nat.le_trans (freeAt_length _ 0) (Nat.le_trans (List.length_take_le _ _) (by omega))
      have h2 := ih (i + 1) (by omega) (by omega)
      rw [freeOf_take l i (by omega), runB_take l free i (by omega)] at h2
      by_cases h0 : (rd_T44 l i).f1.length = 0
      · obtain ⟨f1, f2⟩ := free_rd l i (by omega) h0
        rw [if_pos h0, List.length_append] at h2
        unfold oneB at h2
        rw [if_pos h0] at h2
        refine Ev.step (fun k => ?_) h2
        simp only [cohousingref36_run.l0, if_pos c1, if_pos c2]
        rw [if_pos (by omega), if_pos (by omega), if_pos (by omega), if_pos (by omega), wrapN _ (by omega), wrapN i (by omega)]
        rfl
      · rw [if_neg h0, List.append_nil] at h2
        unfold oneB at h2
        rw [if_neg h0] at h2
        have hvo := hok _ (mem_rd l (show i < l.length by omega))
        have hback := hb i (by omega)
        generalize hv : rd_T44 l (i : Int) = v at *
        obtain ⟨hvo1, _⟩ := hvo
        have h4 : v.f1.length ≤ 4 := by omega
        have ht : v.f2.length = 2 ^ v.f1.length := by omega
        generalize runB (l.take i) free = out at *
        have hin : ∀ e j, v.f1.length - j = e → j ≤ v.f1.length → Ev (fun k => cohousingref36_run.l1 k l free out ((freeOf (l.take i)).length : Nat) (i : Nat) (atF (fun p => out.getD p.toNat false) v.f1 j : Nat) (j : Nat)) (runB l free) := by
          intro e
          induction e with
          | zero =>
            intro j he hj
            obtain rfl : j = v.f1.length := by omega
            have hat := atF_lt (fun p => out.getD p.toNat false) v.f1 v.f1.length
            refine Ev.step (fun k => ?_) h2
            simp only [cohousingref36_run.l1, if_pos c1, if_pos c2, hv]
            rw [if_neg (by omega), if_pos (by omega), if_pos (by omega), if_pos (by omega), wrapN i (by omega)]
          | succ e ihe =>
            intro j he hj
            have hat := atF_lt (fun p => out.getD p.toNat false) v.f1 j
            obtain ⟨p1, p2⟩ := hback _ (rd_mem (show j < v.f1.length by omega))
            have h3 := ihe (j + 1) (by omega) (by omega)
            simp only [atF] at h3
            have hpow : 2 ^ j ≤ 2 ^ 4 := Nat.pow_le_pow_right (by omega) (by omega)
            refine Ev.step (fun k => ?_) h3
            simp only [cohousingref36_run.l1, if_pos c1, if_pos c2, hv]
            rw [if_pos (by omega), if_pos (by omega), if_pos p1, if_pos (by omega)]
            by_cases hbit : out.getD (rd v.f1 j).toNat false = true
            · rw [if_pos hbit, if_pos (show rdOf false out (rd v.f1 j) = true from hbit), or_add hat, shl_one j (by omega), wrapN j (by omega)]
              rw [show wrap64 ((atF (fun p => out.getD p.toNat false) v.f1 j : Int) + ((2 ^ j : Nat) : Int)) = ((atF (fun p => out.getD p.toNat false) v.f1 j + 2 ^ j : Nat) : Int) from by
                generalize 2 ^ j = q at *
                generalize atF (fun p => out.getD p.toNat false) v.f1 j = a at *
                unfold wrap64; omega]
            · rw [if_neg hbit, if_neg (show ¬ rdOf false out (rd v.f1 j) = true from hbit), Nat.or_zero, wrapN j (by omega)]
        have h5 := hin v.f1.length 0 (by omega) (by omega)
        refine Ev.step (fun k => ?_) h5
        simp only [cohousingref36_run.l0, if_pos c1, if_pos c2, hv]
        rw [if_neg (by omega)]
        rfl
  exact h l.length 0 (by omega) (by omega)
theorem Run_ev (l : List S44) (free : List Bool) (hw : ∀ v ∈ l, v.f1.length ≤ 9223372036854775807) : Ev (fun k => cohousingref36_Run.f k l free) (runV l free) := by
  have hv := ref_valid_ev l hw
  unfold runV
  cases hval : validB l with
  | false =>
    rw [hval] at hv
    exact Ev.bind (f := fun k t => if t = true then ((cohousingref36_Free.f k l).bind fun t141 => (if (free.length : Int) = (t141.length : Int) then ((cohousingref36_run.f k l free).bind fun t144 => (some (t144, (0 : Int)))) else (some (([] : List Bool), (1 : Int))))) else (some (([] : List Bool), (1 : Int)))) hv (Ev.now _)
  | true =>
    rw [hval] at hv
    have hlen := valid_len hval
    have hfr := free_ev l (by omega)
    refine Ev.bind (f := fun k t => if t = true then ((cohousingref36_Free.f k l).bind fun t141 => (if (free.length : Int) = (t141.length : Int) then ((cohousingref36_run.f k l free).bind fun t144 => (some (t144, (0 : Int)))) else (some (([] : List Bool), (1 : Int))))) else (some (([] : List Bool), (1 : Int)))) hv ?_
    show Ev (fun k => (cohousingref36_Free.f k l).bind fun t141 => (if (free.length : Int) = (t141.length : Int) then ((cohousingref36_run.f k l free).bind fun t144 => (some (t144, (0 : Int)))) else (some (([] : List Bool), (1 : Int))))) (if decide (free.length = (freeOf l).length) = true then (runB l free, 0) else ([], 1))
    refine Ev.bind (f := fun k t141 => (if (free.length : Int) = (t141.length : Int) then ((cohousingref36_run.f k l free).bind fun t144 => (some (t144, (0 : Int)))) else (some (([] : List Bool), (1 : Int))))) hfr ?_
    by_cases hf : free.length = (freeOf l).length
    · have hr := run_ev l (valid_back hval) (valid_ok hval) hlen free hf
      rw [decide_eq_true hf]
      refine Ev.congr (f := fun k => (cohousingref36_run.f k l free).bind fun t144 => (some (t144, (0 : Int)))) (fun k => by rw [if_pos (by omega)]) ?_
      exact Ev.bind (f := fun _ t => some (t, (0 : Int))) hr (Ev.now _)
    · rw [decide_eq_false hf]
      exact Ev.congr (f := fun _ => some (([] : List Bool), (1 : Int))) (fun k => by rw [if_neg (by omega)]) (Ev.now _)

theorem bit_i64 (s m : Nat) (hs : s < 2 ^ 32) : bits .and .i64 ((s : Int) / 2 ^ m) 1 = if s.testBit m then 1 else 0 := by
  have h1 : ((s : Int) / 2 ^ m) = ((s / 2 ^ m : Nat) : Int) := by simp
  have h2 : s / 2 ^ m < 2 ^ 32 := Nat.lt_of_le_of_lt (Nat.div_le_self _ _) hs
  rw [h1, show (1 : Int) = ((1 : Nat) : Int) from rfl, (bits_nat .i64 32 (by decide) i64_32 (s / 2 ^ m) 1 h2 (by decide)).1, and_one]
  have h3 : (s / 2 ^ m).testBit 0 = s.testBit m := by rw [← Nat.shiftRight_eq_div_pow, Nat.testBit_shiftRight, Nat.add_zero]
  rw [h3]
  split <;> rfl
theorem stBits_take (m s t : Nat) (ht : t < m) : (stBits m s).take (t + 1) = (stBits m s).take t ++ [s.testBit (m - 1 - t)] := by
  rw [List.take_succ_eq_append_getElem (by rw [stBits_len]; exact ht)]
  simp [stBits]
theorem state_ev (s m : Nat) (hm : m ≤ 12) (hs : s < 2 ^ 32) : Ev (fun k => cohousingref36_state.f k s m) (stBits m s) := by
  have h : ∀ d t, m - t = d → t ≤ m → Ev (fun k => cohousingref36_state.l0 k s ((stBits m s).take t) ((m : Int) - 1 - t)) (stBits m s) := by
    intro d
    induction d with
    | zero =>
      intro t hd ht
      obtain rfl : t = m := by omega
      refine Ev.ret fun k => ?_
      simp only [cohousingref36_state.l0]
      rw [if_neg (by omega), List.take_of_length_le (by rw [stBits_len]; omega)]
    | succ d ih =>
      intro t hd ht
      have h2 := ih (t + 1) (by omega) (by omega)
      rw [stBits_take m s t (by omega)] at h2
      have hl : ((stBits m s).take t).length ≤ 12 := Nat.le_trans (List.length_take_le _ _) (by omega)
      refine Ev.step (fun k => ?_) h2
      simp only [cohousingref36_state.l0]
      rw [if_pos (by omega), if_pos (by omega), if_pos (by omega)]
      have e1 : ((m : Int) - 1 - t).toNat = m - 1 - t := by omega
      have e2 : shr .i64 (s : Int) ((m : Int) - 1 - t) = (s : Int) / 2 ^ (m - 1 - t) := by unfold shr; rw [e1, Nat.min_eq_left (by simp [IntKind.bits]; omega)]
      rw [e2, bit_i64 s _ hs]
      rw [show wrap64 ((m : Int) - 1 - t - 1) = (m : Int) - 1 - ((t + 1 : Nat) : Int) from by unfold wrap64; omega]
      cases s.testBit (m - 1 - t) <;> rfl
  have h0 := h m 0 (by omega) (by omega)
  refine Ev.congr (fun k => ?_) h0
  simp only [cohousingref36_state.f, List.take_zero]
  rw [show wrap64 ((m : Int) - 1) = (m : Int) - 1 - ((0 : Nat) : Int) from by unfold wrap64; omega]

def agreesB (out : List Bool) (seen : List S48) (day : Int) : Bool := seen.all (fun s => !(decide (s.f2 ≤ day) && (out.getD s.f0.toNat false != s.f1)))
theorem agrees_ev (out : List Bool) (seen : List S48) (day : Int) (hs : ∀ s ∈ seen, 0 ≤ s.f0 ∧ s.f0 < (out.length : Int)) (hl : seen.length ≤ 1000) : Ev (fun k => cohousingref36_agrees.f k out seen day) (agreesB out seen day) := by
  have h : Ev (fun k => cohousingref36_agrees.l0 k out seen day ((0 : Nat) : Int)) (if (List.range seen.length).all (fun i => !(decide ((rd_T48 seen i).f2 ≤ day) && (out.getD (rd_T48 seen i).f0.toNat false != (rd_T48 seen i).f1))) then true else false) := by
    refine loop_all0 (g := fun k i => cohousingref36_agrees.l0 k out seen day (i : Nat)) (p := fun i => !(decide ((rd_T48 seen i).f2 ≤ day) && (out.getD (rd_T48 seen i).f0.toNat false != (rd_T48 seen i).f1))) ?_ ?_ ?_
    · intro i hi hp
      have c1 : (i : Int) < (seen.length : Int) := by omega
      have c2 : 0 ≤ (i : Int) := by omega
      have hm : rd_T48 seen i ∈ seen := by simp [rd_T48, List.getD_eq_getElem?_getD, List.getElem?_eq_getElem hi]
      obtain ⟨q1, q2⟩ := hs _ hm
      simp only [Bool.not_eq_false', Bool.and_eq_true, decide_eq_true_eq] at hp
      refine Ev.ret fun k => ?_
      simp only [cohousingref36_agrees.l0, if_pos c1, if_pos c2, if_pos hp.1, if_pos q1, if_pos q2]
      rw [if_pos (show (rdOf false out (rd_T48 seen i).f0 != (rd_T48 seen i).f1) = true from hp.2)]
    · intro i hi hp r hr
      have c1 : (i : Int) < (seen.length : Int) := by omega
      have c2 : 0 ≤ (i : Int) := by omega
      have hm : rd_T48 seen i ∈ seen := by simp [rd_T48, List.getD_eq_getElem?_getD, List.getElem?_eq_getElem hi]
      obtain ⟨q1, q2⟩ := hs _ hm
      refine Ev.step (fun k => ?_) hr
      simp only [cohousingref36_agrees.l0, if_pos c1, if_pos c2, if_pos q1, if_pos q2]
      rw [wrapN i (by omega)]
      by_cases hd : (rd_T48 seen i).f2 ≤ day
      · rw [if_pos hd]
        simp only [decide_eq_true hd, Bool.true_and, Bool.not_eq_true'] at hp
        rw [if_neg (by rw [show (rdOf false out (rd_T48 seen i).f0 != (rd_T48 seen i).f1) = false from hp]; simp)]
      · rw [if_neg hd]
    · refine Ev.ret fun k => ?_
      simp only [cohousingref36_agrees.l0]
      rw [if_neg (by omega)]
  have e : (if (List.range seen.length).all (fun i => !(decide ((rd_T48 seen i).f2 ≤ day) && (out.getD (rd_T48 seen i).f0.toNat false != (rd_T48 seen i).f1))) then true else false) = agreesB out seen day := by
    have h2 := all_range z48 seen (fun s => !(decide (s.f2 ≤ day) && (out.getD s.f0.toNat false != s.f1)))
    unfold agreesB
    rw [← h2]
    have h3 : (fun i : Nat => !(decide ((rd_T48 seen i).f2 ≤ day) && (out.getD (rd_T48 seen i).f0.toNat false != (rd_T48 seen i).f1))) = (fun i : Nat => !(decide ((seen.getD i z48).f2 ≤ day) && (out.getD (seen.getD i z48).f0.toNat false != (seen.getD i z48).f1))) := rfl
    rw [h3]
    cases (List.range seen.length).all (fun i => !(decide ((seen.getD i z48).f2 ≤ day) && (out.getD (seen.getD i z48).f0.toNat false != (seen.getD i z48).f1))) <;> rfl
  rw [← e]
  exact h

/-- The bits of a state and its list tell the same. -/
theorem val_bits (l : List S44) (hb : Back l) (s : Nat) : ∀ j, j < l.length → (valN l (initN (freeOf l) s (freeOf l).length) l.length).testBit j = (runB l (stBits (freeOf l).length s)).getD j false := by
  have h := (val_run l hb (stBits (freeOf l).length s) s (fun k hk => (stBits_get _ s k hk).symm) l.length (Nat.le_refl _)).1
  rw [List.take_length] at h
  exact h
theorem all_congr_mem {α : Type} (l : List α) (p q : α → Bool) (h : ∀ x ∈ l, p x = q x) : l.all p = l.all q := by
  induction l with
  | nil => rfl
  | cons x l ih => rw [List.all_cons, List.all_cons, h x (by simp), ih (fun y hy => h y (by simp [hy]))]
theorem agB_eq (l : List S44) (hb : Back l) (seen : List S48) (day : Int) (hs : ∀ s ∈ seen, 0 ≤ s.f0 ∧ s.f0 < (l.length : Int)) (s : Nat) : agB l seen day s = agreesB (runB l (stBits (freeOf l).length s)) seen day := by
  unfold agB agreesB
  refine all_congr_mem _ _ _ (fun x hx => ?_)
  have := hs x hx
  unfold okS
  rw [val_bits l hb s x.f0.toNat (by omega)]
theorem shl_one32 (n : Nat) (h : n < 32) : shl .i64 1 (n : Int) = ((2 ^ n : Nat) : Int) := by
  have hp := pow_lt32 h
  unfold shl
  rw [Int.toNat_natCast, Nat.min_eq_left (by simp [IntKind.bits]; omega), Int.one_mul, show ((2 : Int) ^ n) = ((2 ^ n : Nat) : Int) from by simp]
  generalize 2 ^ n = q at *
  exact i64_32 _ (by omega) (by omega)
theorem obs_bound {seen : List S48} {n : Nat} (h : obsB seen n = true) : ∀ s ∈ seen, 0 ≤ s.f0 ∧ s.f0 < (n : Int) := by
  intro s hs
  unfold obsB at h
  simp only [Bool.and_eq_true, Bool.not_eq_true'] at h
  have h1 := h.2
  rw [List.any_eq_false] at h1
  have h2 := h1 s hs
  unfold oddB at h2
  simp only [Bool.or_eq_true, decide_eq_true_eq, not_or] at h2
  omega
theorem obs_len {seen : List S48} {n : Nat} (h : obsB seen n = true) : seen.length ≤ 100 := by
  unfold obsB at h
  simp only [Bool.and_eq_true, decide_eq_true_eq] at h
  exact h.1
theorem seenB_obs (n : Nat) (seen : List S48) (day : Int) : seenB n seen day = (obsB seen n && dayB day) := rfl
theorem agS_le (l : List S44) (seen : List S48) (day : Int) (hl : l.length ≤ 12) : (agS l seen day).length ≤ 4096 := by
  have hfl : (freeOf l).length ≤ 12 := Nat.le_trans (freeAt_length l 0) hl
  have hpow : 2 ^ (freeOf l).length ≤ 2 ^ 12 := Nat.pow_le_pow_right (by omega) hfl
  exact Nat.le_trans (List.length_filter_le _ _) (by rw [List.length_range]; omega)
theorem States_ev (l : List S44) (seen : List S48) (day : Int) (hw : ∀ v ∈ l, v.f1.length ≤ 9223372036854775807) : Ev (fun k => cohousingref36_States.f k l seen day) (statesV l seen day) := by
  have hv := ref_valid_ev l hw
  have jt : Ev (fun k => cohousingref36_States.j0 k l seen day true) ([], 1) := Ev.ret fun k => by simp only [cohousingref36_States.j0, if_true]
  unfold statesV
  rw [seenB_obs]
  cases hval : validB l with
  | false =>
    rw [hval] at hv
    exact Ev.bind (f := fun k t166 => (if t166 = true then ((cohousingref36_Observations.f k seen (l.length : Int)).bind fun t167 => (if t167 = true then ((cohousingref36_Day.f day).bind fun t168 => (cohousingref36_States.j0 k l seen day (!t168))) else (cohousingref36_States.j0 k l seen day true))) else (cohousingref36_States.j0 k l seen day true))) hv jt
  | true =>
    rw [hval] at hv
    have hlen := valid_len hval
    have hob := obs_ev seen l.length
    refine Ev.bind (f := fun k t166 => (if t166 = true then ((cohousingref36_Observations.f k seen (l.length : Int)).bind fun t167 => (if t167 = true then ((cohousingref36_Day.f day).bind fun t168 => (cohousingref36_States.j0 k l seen day (!t168))) else (cohousingref36_States.j0 k l seen day true))) else (cohousingref36_States.j0 k l seen day true))) hv ?_
    cases hobs : obsB seen l.length with
    | false =>
      rw [hobs] at hob
      exact Ev.bind (f := fun k t167 => (if t167 = true then ((cohousingref36_Day.f day).bind fun t168 => (cohousingref36_States.j0 k l seen day (!t168))) else (cohousingref36_States.j0 k l seen day true))) hob jt
    | true =>
      rw [hobs] at hob
      refine Ev.bind (f := fun k t167 => (if t167 = true then ((cohousingref36_Day.f day).bind fun t168 => (cohousingref36_States.j0 k l seen day (!t168))) else (cohousingref36_States.j0 k l seen day true))) hob ?_
      refine Ev.congr (f := fun k => cohousingref36_States.j0 k l seen day (!(dayB day))) (fun k => by rw [day_ev]; rfl) ?_
      cases hday : dayB day with
      | false => exact jt
      | true =>
        have hfl : (freeOf l).length ≤ 12 := Nat.le_trans (freeAt_length l 0) hlen
        have hpow : 2 ^ (freeOf l).length ≤ 2 ^ 12 := Nat.pow_le_pow_right (by omega) hfl
        have hloop : ∀ d n, 2 ^ (freeOf l).length - n = d → n ≤ 2 ^ (freeOf l).length → Ev (fun k => cohousingref36_States.l0 k l seen day ((freeOf l).length : Nat) (((List.range n).filter (agB l seen day)).map (stBits (freeOf l).length)) (n : Nat)) (statesB l seen day, 0) := by
          intro d
          induction d with
          | zero =>
            intro n hd hn
            obtain rfl : n = 2 ^ (freeOf l).length := by omega
            refine Ev.ret fun k => ?_
            simp only [cohousingref36_States.l0]
            rw [if_pos (by omega), shl_one32 _ (by omega), if_neg (by omega)]
            rfl
          | succ d ih =>
            intro n hd hn
            have h2 := ih (n + 1) (by omega) (by omega)
            have hst := state_ev n (freeOf l).length hfl (by omega)
            have hrn := run_ev l (valid_back hval) (valid_ok hval) hlen (stBits (freeOf l).length n) (stBits_len _ _)
            have hbo := obs_bound hobs
            have hag := agrees_ev (runB l (stBits (freeOf l).length n)) seen day (fun s hs => by rw [runB_len]; exact hbo s hs) (by have := obs_len hobs; omega)
            rw [← agB_eq l (valid_back hval) seen day hbo n] at hag
            have hlim : (((List.range n).filter (agB l seen day)).map (stBits (freeOf l).length)).length ≤ 4096 := by
              rw [List.length_map]
              exact Nat.le_trans (List.length_filter_le _ _) (by rw [List.length_range]; omega)
            rw [List.range_succ, List.filter_append] at h2
            refine Ev.step (g := fun k => cohousingref36_States.l0 k l seen day ((freeOf l).length : Nat) (((List.range n).filter (agB l seen day)).map (stBits (freeOf l).length)) (n : Nat)) (fun k => ?_) (Ev.bind (f := fun k t172 => ((cohousingref36_run.f k l t172).bind fun t175 => ((cohousingref36_agrees.f k t175 seen day).bind fun t178 => (if t178 = true then cohousingref36_States.l0 k l seen day ((freeOf l).length : Nat) (((List.range n).filter (agB l seen day)).map (stBits (freeOf l).length) ++ [t172]) ((n + 1 : Nat) : Int) else cohousingref36_States.l0 k l seen day ((freeOf l).length : Nat) (((List.range n).filter (agB l seen day)).map (stBits (freeOf l).length)) ((n + 1 : Nat) : Int))))) hst (Ev.bind (f := fun k t175 => ((cohousingref36_agrees.f k t175 seen day).bind fun t178 => (if t178 = true then cohousingref36_States.l0 k l seen day ((freeOf l).length : Nat) (((List.range n).filter (agB l seen day)).map (stBits (freeOf l).length) ++ [stBits (freeOf l).length n]) ((n + 1 : Nat) : Int) else cohousingref36_States.l0 k l seen day ((freeOf l).length : Nat) (((List.range n).filter (agB l seen day)).map (stBits (freeOf l).length)) ((n + 1 : Nat) : Int)))) hrn (Ev.bind (f := fun k t178 => (if t178 = true then cohousingref36_States.l0 k l seen day ((freeOf l).length : Nat) (((List.range n).filter (agB l seen day)).map (stBits (freeOf l).length) ++ [stBits (freeOf l).length n]) ((n + 1 : Nat) : Int) else cohousingref36_States.l0 k l seen day ((freeOf l).length : Nat) (((List.range n).filter (agB l seen day)).map (stBits (freeOf l).length)) ((n + 1 : Nat) : Int))) hag ?_)))
            · simp only [cohousingref36_States.l0]
              rw [if_pos (by omega), shl_one32 _ (by omega), if_pos (by omega)]
              simp only [if_pos (show (((List.range n).filter (agB l seen day)).map (stBits (freeOf l).length)).length < 5864062014805 by omega), wrapN n (by omega)]
            · cases hc : agB l seen day n with
              | true =>
                simp only [List.filter_cons, List.filter_nil, hc, if_true, List.map_append, List.map_cons, List.map_nil] at h2
                exact h2
              | false =>
                simp only [List.filter_cons, List.filter_nil, hc, Bool.false_eq_true, if_false, List.append_nil] at h2
                exact h2
        have h0 := hloop (2 ^ (freeOf l).length) 0 (Nat.sub_zero _) (Nat.zero_le _)
        refine Ev.step (fun k => ?_) (Ev.bind (f := fun k (t169 : List Int) => cohousingref36_States.l0 k l seen day (t169.length : Int) ([] : List (List Bool)) 0) (free_ev l (by omega)) h0)
        simp only [cohousingref36_States.j0, Bool.not_true, Bool.false_eq_true, if_false]
end Go.Proofs.Ytjdhnhfglpogmaa.P
/- The reference functions of layer 36: has, Without, Blame. -/
set_option linter.unusedSimpArgs false
set_option linter.unusedVariables false
namespace Go.Proofs.Ytjdhnhfglpogmaa.P
open Go.RowKit Go.Proofs.YtjdhnhfglpogmaaW.PrintWords Go.Proofs.YtjdhnhfglpogmaaW.PrintLast Go.Proofs.YtjdhnhfglpogmaaW.PrintMore

def hasB (l : List S44) (p : Int) : Bool := !((List.range l.length).all (fun i => !((rd_T44 l i).f0 == p)))
theorem has_ev (l : List S44) (p : Int) (hl : l.length ≤ 1000) : Ev (fun k => cohousingref36_has.f k l p) (hasB l p) := by
  have h : Ev (fun k => cohousingref36_has.l0 k l p ((0 : Nat) : Int)) (if (List.range l.length).all (fun i => !((rd_T44 l i).f0 == p)) then false else true) := by
    refine loop_all0 (g := fun k i => cohousingref36_has.l0 k l p (i : Nat)) (p := fun i => !((rd_T44 l i).f0 == p)) ?_ ?_ ?_
    · intro i hi hp
      have c1 : (i : Int) < (l.length : Int) := by omega
      have c2 : 0 ≤ (i : Int) := by omega
      simp only [Bool.not_eq_false', beq_iff_eq] at hp
      refine Ev.ret fun k => ?_
      simp only [cohousingref36_has.l0, if_pos c1, if_pos c2, if_pos hp]
    · intro i hi hp r hr
      have c1 : (i : Int) < (l.length : Int) := by omega
      have c2 : 0 ≤ (i : Int) := by omega
      simp only [Bool.not_eq_true', beq_eq_false_iff_ne] at hp
      refine Ev.step (fun k => ?_) hr
      simp only [cohousingref36_has.l0, if_pos c1, if_pos c2, if_neg hp]
      rw [wrapN i (by omega)]
    · refine Ev.ret fun k => ?_
      simp only [cohousingref36_has.l0]
      rw [if_neg (by omega)]
  have e : (if (List.range l.length).all (fun i => !((rd_T44 l i).f0 == p)) then false else true) = hasB l p := by
    unfold hasB
    cases (List.range l.length).all (fun i => !((rd_T44 l i).f0 == p)) <;> rfl
  rw [← e]
  exact h
theorem hasB_iff (l : List S44) (p : Int) : hasB l p = true ↔ ∃ i, i < l.length ∧ (rd_T44 l i).f0 = p := by
  unfold hasB
  rw [Bool.not_eq_true', List.all_eq_false]
  constructor
  · rintro ⟨i, h1, h2⟩
    exact ⟨i, by simpa using h1, by simpa using h2⟩
  · rintro ⟨i, h1, h2⟩
    exact ⟨i, by simpa using h1, by simp [h2]⟩
theorem maskN_bit (l : List S44) (fr : List Int) (p : Int) (j : Nat) (hj : j < fr.length) : ∀ k, k ≤ fr.length → (maskN l fr p k).testBit (fr.length - 1 - j) = (decide (j < k) && decide ((rd_T44 l (rd fr j)).f0 = p))
  | 0, _ => by simp [maskN]
  | k + 1, hk => by
    have ih := maskN_bit l fr p j hj k (by omega)
    simp only [maskN, Nat.testBit_or, ih]
    by_cases hjk : j = k
    · subst hjk
      by_cases h : (rd_T44 l (rd fr j)).f0 = p
      · simp [h, Nat.testBit_two_pow]
      · simp [h]
    · have : (if (rd_T44 l (rd fr k)).f0 = p then 2 ^ (fr.length - 1 - k) else 0).testBit (fr.length - 1 - j) = false := by
        split
        · rw [Nat.testBit_two_pow]; simp; omega
        · simp
      rw [this, Bool.or_false]
      by_cases h : j < k
      · rw [decide_eq_true h, decide_eq_true (show j < k + 1 by omega)]
      · rw [decide_eq_false h, decide_eq_false (show ¬ j < k + 1 by omega)]
theorem maskN_zero (l : List S44) (fr : List Int) (p : Int) : ∀ k, k ≤ fr.length → (∀ j, j < k → (rd_T44 l (rd fr j)).f0 ≠ p) → maskN l fr p k = 0
  | 0, _, _ => rfl
  | k + 1, hk, h => by
    simp only [maskN]
    rw [maskN_zero l fr p k (by omega) (fun j hj => h j (by omega)), if_neg (h k (by omega))]
    rfl
theorem mask_has (l : List S44) (hv : validB l = true) (p : Int) (hp : 1 ≤ p) : decide (maskOf l p ≠ 0) = hasB l p := by
  rw [Bool.eq_iff_iff, decide_eq_true_eq, hasB_iff]
  unfold maskOf
  constructor
  · intro h
    by_cases hc : ∀ j, j < (freeOf l).length → (rd_T44 l (rd (freeOf l) j)).f0 ≠ p
    · exact absurd (maskN_zero l _ p _ (Nat.le_refl _) hc) h
    · simp only [Classical.not_forall] at hc
      obtain ⟨j, hj, hq⟩ := hc
      have hb := freeOf_bound l _ (rd_mem hj)
      refine ⟨(rd (freeOf l) j).toNat, by omega, ?_⟩
      rw [Int.toNat_of_nonneg hb.1]
      exact Classical.not_not.1 hq
  · rintro ⟨i, hi, he⟩ h
    have hvi := valid_at hv hi
    unfold varB at hvi
    by_cases h0 : (rd_T44 l i).f1.length = 0
    · obtain ⟨f1, f2⟩ := free_rd l i hi h0
      have hb := maskN_bit l (freeOf l) p _ f1 (freeOf l).length (Nat.le_refl _)
      rw [h, f2, decide_eq_true f1, decide_eq_true he] at hb
      simp at hb
    · rw [if_neg h0] at hvi
      simp only [Bool.and_eq_true, decide_eq_true_eq] at hvi
      omega

/-- A state without a party's faults. -/
def withoutB (l : List S44) (s : List Bool) (p : Int) : List Bool := (List.range s.length).map (fun i => s.getD i false && ((rd_T44 l (rd (freeOf l) (i : Nat))).f0 != p))
theorem without_ev (l : List S44) (s : List Bool) (p : Int) (hl : l.length ≤ 12) (hs : s.length = (freeOf l).length) : Ev (fun k => cohousingref36_Without.f k l s p) (withoutB l s p) := by
  have hfl : (freeOf l).length ≤ 12 := Nat.le_trans (freeAt_length l 0) hl
  have h : ∀ d i, s.length - i = d → i ≤ s.length → Ev (fun k => cohousingref36_Without.l0 k l s p (freeOf l) ((withoutB l s p).take i) (i : Nat)) (withoutB l s p) := by
    have hlen : (withoutB l s p).length = s.length := by simp [withoutB]
    have hget : ∀ i, i < s.length → (withoutB l s p).take (i + 1) = (withoutB l s p).take i ++ [s.getD i false && ((rd_T44 l (rd (freeOf l) (i : Nat))).f0 != p)] := by
      intro i hi
      rw [List.take_succ_eq_append_getElem (by rw [hlen]; exact hi)]
      simp [withoutB]
    intro d
    induction d with
    | zero =>
      intro i hd hi
      obtain rfl : i = s.length := by omega
      refine Ev.ret fun k => ?_
      simp only [cohousingref36_Without.l0]
      rw [if_neg (by omega), List.take_of_length_le (by omega)]
    | succ d ih =>
      intro i hd hi
      have h2 := ih (i + 1) (by omega) (by omega)
      rw [hget i (by omega)] at h2
      have hb := freeOf_bound l _ (rd_mem (show i < (freeOf l).length by omega))
      have htl : ((withoutB l s p).take i).length ≤ 12 := Nat.le_trans (List.length_take_le _ _) (by omega)
      refine Ev.step (fun k => ?_) h2
      simp only [cohousingref36_Without.l0]
      rw [if_pos (by omega), if_pos (by omega), wrapN i (by omega)]
      cases hc : s.getD i false with
      | true =>
        rw [if_pos (show rdOf false s (i : Int) = true from hc), if_pos (by omega), if_pos hb.1, if_pos hb.2, if_pos (by omega)]
        rfl
      | false =>
        rw [if_neg (show ¬ rdOf false s (i : Int) = true from by show ¬ s.getD i false = true; rw [hc]; decide), if_pos (by omega)]
        rfl
  refine Ev.bind (f := fun k t186 => (cohousingref36_Without.l0 k l s p t186 ([] : List Bool) 0)) (free_ev l (by omega)) ?_
  have h0 := h s.length 0 (by omega) (by omega)
  rw [List.take_zero] at h0
  exact h0
theorem without_bits (l : List S44) (p : Int) (s : Nat) : withoutB l (stBits (freeOf l).length s) p = stBits (freeOf l).length (clearN s (maskOf l p)) := by
  unfold withoutB
  rw [stBits_len]
  unfold stBits
  refine List.map_congr_left (fun i hi => ?_)
  have hlt : i < (freeOf l).length := by simpa using hi
  have h1 := stBits_get (freeOf l).length s i hlt
  unfold stBits at h1
  rw [h1, clearN_bit]
  unfold maskOf
  rw [maskN_bit l (freeOf l) p i hlt _ (Nat.le_refl _), decide_eq_true hlt, Bool.true_and]
  by_cases h : (rd_T44 l (rd (freeOf l) (i : Nat))).f0 = p
  · simp [h]
  · simp [h]
theorem rd_L3_map (X : List Nat) (m j : Nat) (hj : j < X.length) : rd_L3 (X.map (stBits m)) (j : Int) = stBits m (X.getD j 0) := by
  simp [rd_L3, List.getD_eq_getElem?_getD, List.getElem?_eq_getElem hj]

theorem partyL_snoc (b : Int → Bool) (k : Nat) (c : Bool) (h : b ((k : Int) + 1) = c) : partyL b (k + 1) = if c then partyL b k ++ [(k : Int) + 1] else partyL b k := by
  rw [partyL_succ, h]
  cases c <;> simp
theorem cnt_eq (hb : Bool) (n N X : Nat) (hX : ¬ X = 0) (h1 : hb = true → n = N) (h2 : hb = false → n = 0) : (hb && decide (N = X)) = decide (n = X) ∧ (hb && decide (0 < N)) = decide (0 < n) := by
  cases hb with
  | true => rw [h1 rfl]; exact ⟨Bool.true_and _, Bool.true_and _⟩
  | false =>
    rw [h2 rfl]
    exact ⟨by rw [Bool.false_and, decide_eq_false (by omega)], by rw [Bool.false_and, decide_eq_false (by omega)]⟩
theorem blame_after (l : List S44) (S : List (List Bool)) (d : Int) (su ma : List Int) (p p' : Int) (n : Nat) (j : Int) {N : Nat} (R : List Int × List Int × Int) (hp : 0 ≤ p) (hSl : S.length = N) (hX : ¬ N = 0) (hwr : wrap64 (p + 1) = p') (hs1 : su.length < 17592186044416) (hs2 : ma.length < 17592186044416)
    (h : Ev (fun k => cohousingref36_Blame.l0 k l d S (if decide (n = N) = true then su ++ [p] else su) (if decide (0 < n) = true then ma ++ [p] else ma) p') R) :
    Ev (fun k => cohousingref36_Blame.j3 k l d S su ma p (n : Nat) j false) R := by
  refine Ev.step (fun k => ?_) h
  simp only [cohousingref36_Blame.j3, Bool.false_eq_true, if_false]
  rw [hSl, hwr]
  by_cases g1 : n = N
  · rw [if_pos (show (n : Int) = (N : Int) by omega), if_pos hs1, decide_eq_true g1]
    simp only [Option.bind_some, if_true]
    rw [if_pos (show (n : Int) > 0 by omega), if_pos hs2, decide_eq_true (show 0 < n by omega)]
    simp only [if_true]
  · rw [if_neg (show ¬ (n : Int) = (N : Int) by omega), decide_eq_false g1]
    by_cases g2 : 0 < n
    · rw [if_pos (show (n : Int) > 0 by omega), if_pos hs2, decide_eq_true g2]
      simp only [Bool.false_eq_true, if_false, if_true]
    · rw [if_neg (show ¬ (n : Int) > 0 by omega), decide_eq_false g2]
      simp only [Bool.false_eq_true, if_false]
set_option maxHeartbeats 1000000 in
theorem Blame_ev (l : List S44) (seen : List S48) (day defect : Int) (hw : ∀ v ∈ l, v.f1.length ≤ 9223372036854775807) : Ev (fun k => cohousingref36_Blame.f k l seen day defect) (blameV l seen day defect) := by
  have hst := States_ev l seen day hw
  have hbody : ∀ (k : Nat) (bt : List (List Bool) × Int), (if bt.2 = 0 then (if defect < 0 then (cohousingref36_Blame.j0 k l defect bt.1 true) else (cohousingref36_Blame.j0 k l defect bt.1 (decide (defect ≥ (l.length : Int))))) else (some (([] : List Int), ([] : List Int), bt.2))) = (if bt.2 = 0 then (if defect < 0 then (cohousingref36_Blame.j0 k l defect bt.1 true) else (cohousingref36_Blame.j0 k l defect bt.1 (decide (defect ≥ (l.length : Int))))) else (some (([] : List Int), ([] : List Int), bt.2))) := fun _ _ => rfl
  refine Ev.bind (f := fun k (bt198 : List (List Bool) × Int) => (if bt198.2 = 0 then (if defect < 0 then (cohousingref36_Blame.j0 k l defect bt198.1 true) else (cohousingref36_Blame.j0 k l defect bt198.1 (decide (defect ≥ (l.length : Int))))) else (some (([] : List Int), ([] : List Int), bt198.2)))) hst ?_
  have jt : ∀ S, Ev (fun k => cohousingref36_Blame.j0 k l defect S true) ([], [], 1) := fun S => Ev.ret fun k => by simp only [cohousingref36_Blame.j0, if_true]
  unfold statesV blameV
  by_cases hok : (validB l && seenB l.length seen day) = true
  · rw [hok]
    simp only [if_true, Bool.true_and]
    by_cases hd0 : defect < 0
    · rw [decide_eq_false (show ¬ 0 ≤ defect by omega), Bool.false_and]
      simp only [if_pos hd0, Bool.false_eq_true, if_false]
      exact jt _
    · by_cases hd1 : defect < (l.length : Int)
      · rw [decide_eq_true (show 0 ≤ defect by omega), decide_eq_true hd1, Bool.true_and, if_pos rfl, decide_eq_false (show ¬ defect ≥ (l.length : Int) by omega)]
        simp only [if_neg hd0]
        obtain ⟨d, rfl⟩ := Int.eq_ofNat_of_zero_le (show 0 ≤ defect by omega)
        simp only [Bool.and_eq_true] at hok
        obtain ⟨hval, hsb⟩ := hok
        have hlen := valid_len hval
        have hback := valid_back hval
        have hvok := valid_ok hval
        have hXle := agS_le l seen day hlen
        have hSm : statesB l seen day = (agS l seen day).map (stBits (freeOf l).length) := rfl
        rw [hSm, Int.toNat_natCast]
        generalize agS l seen day = X at *
        have hSl : (X.map (stBits (freeOf l).length)).length = X.length := by simp
        by_cases hX0 : X.length = 0
        · rw [if_pos hX0]
          refine Ev.ret fun k => ?_
          simp only [cohousingref36_Blame.j0, Bool.false_eq_true, if_false]
          rw [if_pos (by omega)]
        · rw [if_neg hX0]
          have hloop : ∀ e q, 64 - q = e → q ≤ 64 → Ev (fun k => cohousingref36_Blame.l0 k l d (X.map (stBits (freeOf l).length)) (partyL (sureB l X d) q) (partyL (maybeB l X d) q) ((q : Int) + 1)) (partyL (sureB l X d) 64, partyL (maybeB l X d) 64, 0) := by
            intro e
            induction e with
            | zero =>
              intro q he hq
              obtain rfl : q = 64 := by omega
              refine Ev.ret fun k => ?_
              simp only [cohousingref36_Blame.l0]
              rw [if_neg (by omega)]
            | succ e ih =>
              intro q he hq
              have hnext := ih (q + 1) (by omega) (by omega)
              have hs1 := partyL_len (sureB l X d) q
              have hs2 := partyL_len (maybeB l X d) q
              have hpp : (1 : Int) ≤ (q : Int) + 1 := by omega
              have hmh := mask_has l hval ((q : Int) + 1) hpp
              have hsu : sureB l X d ((q : Int) + 1) = (decide (maskOf l ((q : Int) + 1) ≠ 0) && decide (cntB l X d ((q : Int) + 1) = X.length)) := rfl
              have hma : maybeB l X d ((q : Int) + 1) = (decide (maskOf l ((q : Int) + 1) ≠ 0) && decide (0 < cntB l X d ((q : Int) + 1))) := rfl
              rw [hmh] at hsu hma
              have hcnt : cntB l X d ((q : Int) + 1) ≤ X.length := List.length_filter_le _ _
              rw [partyL_snoc _ _ _ hsu, partyL_snoc _ _ _ hma] at hnext
              clear hsu hma hmh
              generalize partyL (sureB l X d) q = su at hnext hs1 ⊢
              generalize partyL (maybeB l X d) q = ma at hnext hs2 ⊢
              obtain ⟨N, hN⟩ : ∃ N, N = cntB l X d ((q : Int) + 1) := ⟨_, rfl⟩
              rw [← hN] at hnext hcnt
              have hNd : ∀ _ : Unit, cntB l X d ((q : Int) + 1) = (X.filter (blB l d (maskOf l ((q : Int) + 1)))).length := fun _ => rfl
              rw [← hN] at hNd
              clear hN
              have hwr : ∀ _ : Unit, wrap64 ((q : Int) + 1 + 1) = (((q + 1 : Nat) : Int) + 1) := by intro _; unfold wrap64; omega
              -- behind the counting
              have after : ∀ (n : Nat) (j : Int), n ≤ X.length → (hasB l ((q : Int) + 1) = true → n = N) → (hasB l ((q : Int) + 1) = false → n = 0) →
                  Ev (fun k => cohousingref36_Blame.j3 k l d (X.map (stBits (freeOf l).length)) su ma ((q : Int) + 1) (n : Nat) j false) (partyL (sureB l X d) 64, partyL (maybeB l X d) 64, 0) := by
                intro n j hn h1 h2
                obtain ⟨c1, c2⟩ := cnt_eq _ n _ _ hX0 h1 h2
                rw [c1, c2] at hnext
                exact blame_after l _ d _ _ _ _ n j _ (by omega) hSl hX0 (hwr ()) (by omega) (by omega) hnext
              have hhas := has_ev l ((q : Int) + 1) (by omega)
              have hl1 : Ev (fun k => cohousingref36_Blame.l1 k l d (X.map (stBits (freeOf l).length)) su ma ((q : Int) + 1) ((0 : Nat) : Int) ((0 : Nat) : Int)) (partyL (sureB l X d) 64, partyL (maybeB l X d) 64, 0) := by
                cases hb : hasB l ((q : Int) + 1) with
                | false =>
                  rw [hb] at hhas
                  have ha := after 0 0 (by omega) (fun h => by rw [hb] at h; cases h) (fun _ => rfl)
                  refine Ev.step (fun k => ?_) (Ev.bind (f := fun k t202 => cohousingref36_Blame.j3 k l d (X.map (stBits (freeOf l).length)) su ma ((q : Int) + 1) ((0 : Nat) : Int) ((0 : Nat) : Int) t202) hhas ha)
                  simp only [cohousingref36_Blame.l1]
                  rw [if_pos (by omega)]
                | true =>
                  rw [hb] at hhas
                  have hin : ∀ e j, X.length - j = e → j ≤ X.length → Ev (fun k => cohousingref36_Blame.l1 k l d (X.map (stBits (freeOf l).length)) su ma ((q : Int) + 1) (((X.take j).filter (blB l d (maskOf l ((q : Int) + 1)))).length : Nat) (j : Nat)) (partyL (sureB l X d) 64, partyL (maybeB l X d) 64, 0) := by
                    intro e
                    induction e with
                    | zero =>
                      intro j he hj
                      obtain rfl : j = X.length := by omega
                      rw [List.take_length]
                      have ha := after N (X.length : Nat) hcnt (fun _ => rfl) (fun h => by rw [hb] at h; cases h)
                      refine Ev.step (fun k => ?_) ha
                      simp only [cohousingref36_Blame.l1]
                      rw [if_neg (by omega), hNd ()]
                    | succ e ihe =>
                      intro j he hj
                      have h3 := ihe (j + 1) (by omega) (by omega)
                      have hcl : ((X.take j).filter (blB l d (maskOf l ((q : Int) + 1)))).length ≤ j := Nat.le_trans (List.length_filter_le _ _) (List.length_take_le _ _)
                      have htk : ((X.take (j + 1)).filter (blB l d (maskOf l ((q : Int) + 1)))).length = ((X.take j).filter (blB l d (maskOf l ((q : Int) + 1)))).length + if blB l d (maskOf l ((q : Int) + 1)) (X.getD j 0) then 1 else 0 := by
                        rw [List.take_succ_eq_append_getElem (show j < X.length by omega), List.filter_append, List.length_append]
                        simp only [List.filter_cons, List.filter_nil, List.getD_eq_getElem?_getD, List.getElem?_eq_getElem (show j < X.length by omega), Option.getD_some]
                        split <;> rfl
                      have hbl : blB l d (maskOf l ((q : Int) + 1)) (X.getD j 0) = ((runB l (stBits (freeOf l).length (X.getD j 0))).getD d false && !((runB l (stBits (freeOf l).length (clearN (X.getD j 0) (maskOf l ((q : Int) + 1))))).getD d false)) := by
                        unfold blB
                        rw [val_bits l hback _ d (by omega), val_bits l hback _ d (by omega)]
                      rw [htk, hbl] at h3
                      have hr1 := run_ev l hback hvok hlen (stBits (freeOf l).length (X.getD j 0)) (stBits_len _ _)
                      have hwo := without_ev l (stBits (freeOf l).length (X.getD j 0)) ((q : Int) + 1) hlen (stBits_len _ _)
                      rw [without_bits] at hwo
                      have hr2 := run_ev l hback hvok hlen (stBits (freeOf l).length (clearN (X.getD j 0) (maskOf l ((q : Int) + 1)))) (stBits_len _ _)
                      have hn1 := runB_len l (stBits (freeOf l).length (X.getD j 0))
                      have hn2 := runB_len l (stBits (freeOf l).length (clearN (X.getD j 0) (maskOf l ((q : Int) + 1))))
                      generalize ((X.take j).filter (blB l d (maskOf l ((q : Int) + 1)))).length = n at *
                      generalize runB l (stBits (freeOf l).length (X.getD j 0)) = t1 at *
                      generalize runB l (stBits (freeOf l).length (clearN (X.getD j 0) (maskOf l ((q : Int) + 1)))) = t2 at *
                      have hj3 : Ev (fun k => cohousingref36_Blame.j3 k l d (X.map (stBits (freeOf l).length)) su ma ((q : Int) + 1) (n : Nat) (j : Nat) true) (partyL (sureB l X d) 64, partyL (maybeB l X d) 64, 0) := by
                        have hfin : Ev (fun k => (if 0 ≤ (d : Int) then (if (d : Int) < (t1.length : Int) then (if rdOf false t1 (d : Int) = true then (if (d : Int) < (t2.length : Int) then (if rdOf false t2 (d : Int) = true then (cohousingref36_Blame.l1 k l d (X.map (stBits (freeOf l).length)) su ma ((q : Int) + 1) (n : Nat) (wrap64 ((j : Int) + 1))) else (cohousingref36_Blame.l1 k l d (X.map (stBits (freeOf l).length)) su ma ((q : Int) + 1) (wrap64 ((n : Int) + 1)) (wrap64 ((j : Int) + 1)))) else (none)) else (cohousingref36_Blame.l1 k l d (X.map (stBits (freeOf l).length)) su ma ((q : Int) + 1) (n : Nat) (wrap64 ((j : Int) + 1)))) else (none)) else (none))) (partyL (sureB l X d) 64, partyL (maybeB l X d) 64, 0) := by
                          refine Ev.congr (fun k => ?_) h3
                          rw [if_pos (by omega), if_pos (by omega), wrapN j (by omega), wrapN n (by omega)]
                          cases g1 : t1.getD d false with
                          | false =>
                            rw [if_neg (show ¬ rdOf false t1 (d : Int) = true from by show ¬ t1.getD d false = true; rw [g1]; decide)]
                            simp
                          | true =>
                            rw [if_pos (show rdOf false t1 (d : Int) = true from g1), if_pos (by omega)]
                            cases g2 : t2.getD d false with
                            | false =>
                              rw [if_neg (show ¬ rdOf false t2 (d : Int) = true from by show ¬ t2.getD d false = true; rw [g2]; decide)]
                              simp
                            | true =>
                              rw [if_pos (show rdOf false t2 (d : Int) = true from g2)]
                              simp
                        have e1 := Ev.bind (f := fun k t211 => (if 0 ≤ (d : Int) then (if (d : Int) < (t1.length : Int) then (if rdOf false t1 (d : Int) = true then (if (d : Int) < (t211.length : Int) then (if rdOf false t211 (d : Int) = true then (cohousingref36_Blame.l1 k l d (X.map (stBits (freeOf l).length)) su ma ((q : Int) + 1) (n : Nat) (wrap64 ((j : Int) + 1))) else (cohousingref36_Blame.l1 k l d (X.map (stBits (freeOf l).length)) su ma ((q : Int) + 1) (wrap64 ((n : Int) + 1)) (wrap64 ((j : Int) + 1)))) else (none)) else (cohousingref36_Blame.l1 k l d (X.map (stBits (freeOf l).length)) su ma ((q : Int) + 1) (n : Nat) (wrap64 ((j : Int) + 1)))) else (none)) else (none))) hr2 hfin
                        have e2 := Ev.bind (f := fun k t208 => ((cohousingref36_run.f k l t208).bind fun t211 => (if 0 ≤ (d : Int) then (if (d : Int) < (t1.length : Int) then (if rdOf false t1 (d : Int) = true then (if (d : Int) < (t211.length : Int) then (if rdOf false t211 (d : Int) = true then (cohousingref36_Blame.l1 k l d (X.map (stBits (freeOf l).length)) su ma ((q : Int) + 1) (n : Nat) (wrap64 ((j : Int) + 1))) else (cohousingref36_Blame.l1 k l d (X.map (stBits (freeOf l).length)) su ma ((q : Int) + 1) (wrap64 ((n : Int) + 1)) (wrap64 ((j : Int) + 1)))) else (none)) else (cohousingref36_Blame.l1 k l d (X.map (stBits (freeOf l).length)) su ma ((q : Int) + 1) (n : Nat) (wrap64 ((j : Int) + 1)))) else (none)) else (none)))) hwo e1
                        have e3 := Ev.bind (f := fun k (t204 : List Bool) => ((cohousingref36_Without.f k l (stBits (freeOf l).length (X.getD j 0)) ((q : Int) + 1)).bind fun t208 => ((cohousingref36_run.f k l t208).bind fun t211 => (if 0 ≤ (d : Int) then (if (d : Int) < (t204.length : Int) then (if rdOf false t204 (d : Int) = true then (if (d : Int) < (t211.length : Int) then (if rdOf false t211 (d : Int) = true then (cohousingref36_Blame.l1 k l d (X.map (stBits (freeOf l).length)) su ma ((q : Int) + 1) (n : Nat) (wrap64 ((j : Int) + 1))) else (cohousingref36_Blame.l1 k l d (X.map (stBits (freeOf l).length)) su ma ((q : Int) + 1) (wrap64 ((n : Int) + 1)) (wrap64 ((j : Int) + 1)))) else (none)) else (cohousingref36_Blame.l1 k l d (X.map (stBits (freeOf l).length)) su ma ((q : Int) + 1) (n : Nat) (wrap64 ((j : Int) + 1)))) else (none)) else (none))))) hr1 e2
                        refine Ev.step (fun k => ?_) e3
                        simp only [cohousingref36_Blame.j3, if_true]
                        rw [if_pos (by omega), if_pos (by omega), rd_L3_map X _ j (by omega)]
                      refine Ev.step (fun k => ?_) (Ev.bind (f := fun k t202 => cohousingref36_Blame.j3 k l d (X.map (stBits (freeOf l).length)) su ma ((q : Int) + 1) (n : Nat) (j : Nat) t202) hhas hj3)
                      simp only [cohousingref36_Blame.l1]
                      rw [if_pos (by omega)]
                  have h0 := hin X.length 0 (by omega) (by omega)
                  simpa using h0
              refine Ev.step (fun k => ?_) hl1
              simp only [cohousingref36_Blame.l0]
              rw [if_pos (by omega)]
              rfl
          have h0 := hloop 64 0 (by omega) (by omega)
          refine Ev.step (fun k => ?_) h0
          simp only [cohousingref36_Blame.j0, Bool.false_eq_true, if_false]
          rw [if_neg (by omega)]
          rfl
      · rw [decide_eq_false hd1, Bool.and_false, if_neg (show ¬ false = true by decide), decide_eq_true (show defect ≥ (l.length : Int) by omega)]
        simp only [if_neg hd0]
        exact jt _
  · simp only [Bool.not_eq_true] at hok
    rw [hok]
    exact Ev.now _
end Go.Proofs.Ytjdhnhfglpogmaa.P
