/- Layer 36: usable; CauseRuns answers true. -/
import Derived.Test.YtjdhnhfglpogmaaLaw1
import Derived.Test.YtjdhnhfglpogmaaPx9
set_option linter.unusedSimpArgs false
set_option linter.unusedVariables false
namespace Go.Proofs.Ytjdhnhfglpogmaa.P
open Go Go.RowKit Go.Proofs.YtjdhnhfglpogmaaW.PrintWords Go.Proofs.YtjdhnhfglpogmaaW.PrintLast Go.Proofs.YtjdhnhfglpogmaaW.PrintMore

def usableB (l : List S44) (seen : List S48) (day : Int) : Bool := fewB l seen.length && (validB l && (obsB seen l.length && dayB day))
theorem usable_ev (l : List S44) (seen : List S48) (day : Int) (hw : ∀ v ∈ l, v.f1.length ≤ 9223372036854775807) : Ev (fun k => cohousinglaw36_usable.f k l seen day) (usableB l seen day) := by
  unfold usableB
  have h3 := obs_ev seen l.length
  have h2 := ref_valid_ev l hw
  have h1 := few_ev l seen
  have e3 := Ev.bind (f := fun k t267 => (if t267 = true then ((cohousingref36_Day.f day).bind fun t268 => (some t268)) else (some false))) (r := obsB seen l.length && dayB day) h3 (Ev.ret fun k => by
    cases obsB seen l.length with
    | false => simp
    | true => simp [day_ev])
  have e2 := Ev.bind (f := fun k t266 => (if t266 = true then ((cohousingref36_Observations.f k seen (l.length : Int)).bind fun t267 => (if t267 = true then ((cohousingref36_Day.f day).bind fun t268 => (some t268)) else (some false))) else (some false))) (r := validB l && (obsB seen l.length && dayB day)) h2 (by
    cases validB l with
    | false => exact Ev.ret fun k => by simp
    | true => simpa only [if_true, Bool.true_and] using e3)
  exact Ev.bind (f := fun k t265 => (if t265 = true then ((cohousingref36_Valid.f k l).bind fun t266 => (if t266 = true then ((cohousingref36_Observations.f k seen (l.length : Int)).bind fun t267 => (if t267 = true then ((cohousingref36_Day.f day).bind fun t268 => (some t268)) else (some false))) else (some false))) else (some false))) h1 (by
    cases fewB l seen.length with
    | false => exact Ev.ret fun k => by simp
    | true => simpa only [if_true, Bool.true_and] using e2)
theorem usable_valid {l : List S44} {seen : List S48} {day : Int} (h : usableB l seen day = true) : validB l = true ∧ obsB seen l.length = true ∧ dayB day = true ∧ fewB l seen.length = true := by
  unfold usableB at h
  simp only [Bool.and_eq_true] at h
  exact ⟨h.2.1, h.2.2.1, h.2.2.2, h.1⟩

theorem runB_pre (l : List S44) (free : List Bool) : ∀ d, d ≤ l.length → (runB l free).take (l.length - d) = runB (l.take (l.length - d)) free
  | 0, _ => by rw [Nat.sub_zero, List.take_length, List.take_of_length_le (by rw [runB_len]; exact Nat.le_refl _)]
  | d + 1, h => by
    have ih := runB_pre l free d (by omega)
    obtain ⟨k, hk⟩ : ∃ k, k = l.length - (d + 1) := ⟨_, rfl⟩
    have hk1 : l.length - d = k + 1 := by omega
    rw [← hk]
    rw [hk1] at ih
    have h1 : (runB l free).take k = ((runB l free).take (k + 1)).take k := by rw [List.take_take, Nat.min_eq_left (by omega)]
    rw [h1, ih, runB_take l free k (by omega)]
    have h2 := runB_len_take l free k (by omega)
    rw [List.take_append_of_le_length (by omega), List.take_of_length_le (by omega)]
theorem runB_take' (l : List S44) (free : List Bool) (i : Nat) (hi : i ≤ l.length) : (runB l free).take i = runB (l.take i) free := by
  have h := runB_pre l free (l.length - i) (by omega)
  rwa [show l.length - (l.length - i) = i by omega] at h
theorem getD_take {α : Type} (z : α) (X : List α) (i j : Nat) (h : j < i) : (X.take i).getD j z = X.getD j z := by
  simp [List.getD_eq_getElem?_getD, List.getElem?_take, h]
theorem runB_get (l : List S44) (free : List Bool) (i : Nat) (hi : i < l.length) : (runB l free).getD i false = oneB (rd_T44 l i) (freeOf (l.take i)).length free (runB (l.take i) free) := by
  rw [← getD_take false (runB l free) (i + 1) i (by omega), runB_take' l free (i + 1) (by omega), runB_take l free i hi]
  have h2 := runB_len_take l free i (by omega)
  simp [List.getD_eq_getElem?_getD, List.getElem?_append_right (show (runB (l.take i) free).length ≤ i by omega), h2]
/-- The value of a variable with parents, out of the values of all. -/
theorem runB_at (l : List S44) (hb : Back l) (free : List Bool) (i : Nat) (hi : i < l.length) (h0 : ¬ (rd_T44 l i).f1.length = 0) :
    (runB l free).getD i false = rdOf false (rd_T44 l i).f2 (atF (fun p => (runB l free).getD p.toNat false) (rd_T44 l i).f1 (rd_T44 l i).f1.length : Nat) := by
  have h := runB_get l free i hi
  unfold oneB at h
  rw [if_neg h0] at h
  rw [h, atF_congr (b := fun p => (runB (l.take i) free).getD p.toNat false) (c := fun p => (runB l free).getD p.toNat false) _ (fun p hp => ?_) _ (Nat.le_refl _)]
  have hbp := hb i hi p hp
  rw [← runB_take' l free i (by omega)]
  exact getD_take false _ _ _ (by omega)

theorem runs_loop (l : List S44) (free : List Bool) (hv : validB l = true) (hf : free.length = (freeOf l).length) :
    ∀ d i, l.length - i = d → i ≤ l.length → Ev (fun k => cohousinglaw36_CauseRuns.l0 k free true (runB l free) ((freeOf (l.take i)).length : Nat) l (l.length : Int) (i : Nat)) true := by
  have hlen := valid_len hv
  have hback := valid_back hv
  have hvok := valid_ok hv
  have hfl : (freeOf l).length ≤ 12 := Nat.le_trans (freeAt_length l 0) hlen
  have hrl := runB_len l free
  have hget := runB_get l free
  have hat' := runB_at l hback free
  generalize hout : runB l free = out at *
  intro d
  induction d with
  | zero =>
    intro i hd hi
    obtain rfl : i = l.length := by omega
    refine Ev.ret fun k => ?_
    simp only [cohousinglaw36_CauseRuns.l0]
    rw [if_neg (by omega)]
  | succ d ih =>
    intro i hd hi
    have h2 := ih (i + 1) (by omega) (by omega)
    rw [freeOf_take l i (by omega)] at h2
    have hul : (freeOf (l.take i)).length ≤ 12 := Nat.le_trans (freeAt_length _ 0) (Nat.le_trans (List.length_take_le _ _) (by omega))
    by_cases h0 : (rd_T44 l i).f1.length = 0
    · obtain ⟨f1, f2⟩ := free_rd l i (by omega) h0
      rw [if_pos h0, List.length_append] at h2
      have hg := hget i (by omega)
      unfold oneB at hg
      rw [if_pos h0] at hg
      refine Ev.step (fun k => ?_) h2
      simp only [cohousinglaw36_CauseRuns.l0]
      rw [if_pos (by omega), if_pos (by omega), if_pos (by omega), if_pos (by omega), if_pos (by omega), if_pos (by omega), if_pos (by omega)]
      rw [if_neg (show ¬ (rdOf false out (i : Int) != rdOf false free (((freeOf (l.take i)).length : Nat) : Int)) = true from by
        show ¬ (out.getD i false != free.getD (freeOf (l.take i)).length false) = true
        rw [hg]; simp)]
      rw [wrapN _ (by omega), wrapN i (by omega)]
      rfl
    · rw [if_neg h0, List.append_nil] at h2
      have hg := hat' i (by omega) h0
      have hvo := hvok _ (mem_rd l (show i < l.length by omega))
      have hbk := hback i (by omega)
      generalize hvv : rd_T44 l (i : Int) = v at *
      obtain ⟨hvo1, _⟩ := hvo
      have h4 : v.f1.length ≤ 4 := by omega
      have ht : v.f2.length = 2 ^ v.f1.length := by omega
      have hin : ∀ e j, v.f1.length - j = e → j ≤ v.f1.length → Ev (fun k => cohousinglaw36_CauseRuns.l1 k free true out ((freeOf (l.take i)).length : Nat) (i : Nat) (atF (fun p => out.getD p.toNat false) v.f1 j : Nat) l (l.length : Int) (i : Nat) v.f1 (v.f1.length : Int) (j : Nat) v.f0 v.f1 v.f2) true := by
        intro e
        induction e with
        | zero =>
          intro j he hj
          obtain rfl : j = v.f1.length := by omega
          have hat := atF_lt (fun p => out.getD p.toNat false) v.f1 v.f1.length
          refine Ev.step (fun k => ?_) h2
          simp only [cohousinglaw36_CauseRuns.l1]
          rw [if_neg (by omega), if_pos (by omega), if_pos (by omega), if_pos (by omega), if_pos (by omega)]
          rw [if_neg (show ¬ (rdOf false out (i : Int) != rdOf false v.f2 ((atF (fun p => out.getD p.toNat false) v.f1 v.f1.length : Nat) : Int)) = true from by
            show ¬ (out.getD i false != rdOf false v.f2 ((atF (fun p => out.getD p.toNat false) v.f1 v.f1.length : Nat) : Int)) = true
            rw [hg]; simp)]
          rw [wrapN i (by omega)]
        | succ e ihe =>
          intro j he hj
          have hat := atF_lt (fun p => out.getD p.toNat false) v.f1 j
          obtain ⟨p1, p2⟩ := hbk _ (rd_mem (show j < v.f1.length by omega))
          have h3 := ihe (j + 1) (by omega) (by omega)
          simp only [atF] at h3
          have hpow : 2 ^ j ≤ 2 ^ 4 := Nat.pow_le_pow_right (by omega) (by omega)
          refine Ev.step (fun k => ?_) h3
          simp only [cohousinglaw36_CauseRuns.l1]
          rw [if_pos (by omega), if_pos (by omega), if_pos (by omega), if_pos p1, if_pos (by omega)]
          by_cases hbit : out.getD (rd v.f1 j).toNat false = true
          · rw [if_pos hbit, if_pos (show rdOf false out (rd v.f1 j) = true from hbit), shl_one j (by omega), or_i64 _ _ (by omega) (by omega), wrapN j (by omega)]
          · rw [if_neg hbit, if_neg (show ¬ rdOf false out (rd v.f1 j) = true from hbit), Nat.or_zero, wrapN j (by omega)]
      have h5 := hin v.f1.length 0 (by omega) (by omega)
      refine Ev.step (fun k => ?_) h5
      simp only [cohousinglaw36_CauseRuns.l0, hvv]
      rw [if_pos (by omega), if_pos (by omega), if_pos (by omega), if_neg (by omega)]
      rfl
theorem runs_ev (l : List S44) (free : List Bool) (hw : ∀ v ∈ l, v.f1.length ≤ 9223372036854775807) : Ev (fun k => cohousinglaw36_CauseRuns.f k l free) true := by
  have j0t : Ev (fun k => cohousinglaw36_CauseRuns.j0 k l free true true) true := Ev.ret fun k => by simp only [cohousinglaw36_CauseRuns.j0, if_true]
  have hu := usable_ev l [] 0 hw
  refine Ev.bind (f := fun k t270 => (if t270 = true then ((cohousingref36_Free.f k l).bind fun t271 => (cohousinglaw36_CauseRuns.j0 k l free true ((free.length : Int) != (t271.length : Int)))) else (cohousinglaw36_CauseRuns.j0 k l free true true))) hu ?_
  cases hb : usableB l [] 0 with
  | false => simpa only [Bool.false_eq_true, if_false] using j0t
  | true =>
    simp only [if_true]
    obtain ⟨hv, _⟩ := usable_valid hb
    have hlen := valid_len hv
    refine Ev.bind (f := fun k (t271 : List Int) => (cohousinglaw36_CauseRuns.j0 k l free true ((free.length : Int) != (t271.length : Int)))) (free_ev l (by omega)) ?_
    by_cases hf : free.length = (freeOf l).length
    · rw [show ((free.length : Int) != ((freeOf l).length : Int)) = false from by rw [hf]; simp]
      have h0 := runs_loop l free hv hf l.length 0 (by omega) (by omega)
      have hrl := runB_len l free
      have j1 : Ev (fun k => cohousinglaw36_CauseRuns.j1 k l free true (runB l free) false) true := by
        refine Ev.step (fun k => ?_) h0
        simp only [cohousinglaw36_CauseRuns.j1, Bool.false_eq_true, if_false]
        rfl
      refine Ev.step (fun k => ?_) j1
      simp only [cohousinglaw36_CauseRuns.j0, Bool.false_eq_true, if_false, cause_Run.f, Option.bind_some]
      have hr : runV l free = (runB l free, 0) := by
        unfold runV
        rw [hv, decide_eq_true hf]
        rfl
      rw [hr]
      simp only [if_true, hrl, bne_self_eq_false]
    · rw [show ((free.length : Int) != ((freeOf l).length : Int)) = true from by rw [bne_iff_ne]; omega]
      exact j0t
end Go.Proofs.Ytjdhnhfglpogmaa.P
