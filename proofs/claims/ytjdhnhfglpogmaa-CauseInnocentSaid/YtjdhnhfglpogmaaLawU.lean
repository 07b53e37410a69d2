/- Layer 36: usable; what the laws' proofs share. -/
import Derived.Test.YtjdhnhfglpogmaaXP
import Derived.Test.YtjdhnhfglpogmaaPx8
set_option linter.unusedSimpArgs false
set_option linter.unusedVariables false
namespace Go.Proofs.Ytjdhnhfglpogmaa.P
open Go Go.RowKit Go.Proofs.YtjdhnhfglpogmaaW.PrintWords Go.Proofs.YtjdhnhfglpogmaaW.PrintLast Go.Proofs.YtjdhnhfglpogmaaW.PrintMore

theorem runV_len (l : List S44) (free : List Bool) : (runV l free).1.length ≤ 9223372036854775807 := by
  unfold runV
  split
  · rename_i h
    simp only [Bool.and_eq_true] at h
    have := valid_len h.1
    show (runB l free).length ≤ _
    rw [runB_len]
    omega
  · show ([] : List Bool).length ≤ _
    simp
theorem statesV_len (l : List S44) (seen : List S48) (day : Int) : (statesV l seen day).1.length ≤ 4096 ∧ ∀ x ∈ (statesV l seen day).1, x.length ≤ 12 := by
  unfold statesV
  split
  · rename_i h
    simp only [Bool.and_eq_true] at h
    have h1 := agS_le l seen day (valid_len h.1)
    refine ⟨by show (statesB l seen day).length ≤ _; unfold statesB; rw [List.length_map]; exact h1, fun x hx => ?_⟩
    replace hx : x ∈ statesB l seen day := hx
    unfold statesB at hx
    obtain ⟨s, _, rfl⟩ := List.mem_map.1 hx
    rw [stBits_len]
    exact Nat.le_trans (freeAt_length l 0) (valid_len h.1)
  · exact ⟨by simp, fun x hx => by simp at hx⟩
theorem blameV_len (l : List S44) (seen : List S48) (day defect : Int) : (blameV l seen day defect).1.length ≤ 64 ∧ (blameV l seen day defect).2.1.length ≤ 64 := by
  unfold blameV
  repeat' split
  all_goals first
    | exact ⟨partyL_len _ 64, partyL_len _ 64⟩
    | exact ⟨Nat.zero_le _, Nat.zero_le _⟩
def usableB (l : List S44) (seen : List S48) (day : Int) : Bool := fewB l seen.length && (validB l && (obsB seen l.length && dayB day))
theorem usable_ev (l : List S44) (seen : List S48) (day : Int) (hw : ∀ v ∈ l, v.f1.length ≤ 9223372036854775807) : Ev (fun k => cohousinglaw36_usable.f k l seen day) (usableB l seen day) := by
  unfold usableB
  have h3 := obs_ev seen l.length
  have h2 := ref_valid_ev l hw
  have h1 := few_ev l seen
  have e3 := Ev.bind (f := fun k t267 => (if t267 = true then ((cohousingref36_Day.f day).bind fun t268 => (some t268)) else (some false))) (r := obsB seen l.length && dayB day) h3 (Ev.ret fun k => by
    cases obsB seen l.length with
    | false => simp
    | true => simp [day_ev])
  have e2 := Ev.bind (f := fun k t266 => (if t266 = true then ((cohousingref36_Observations.f k seen (l.length : Int)).bind fun t267 => (if t267 = true then ((cohousingref36_Day.f day).bind fun t268 => (some t268)) else (some false))) else (some false))) (r := validB l && (obsB seen l.length && dayB day)) h2 (by
    cases validB l with
    | false => exact Ev.ret fun k => by simp
    | true => simpa only [if_true, Bool.true_and] using e3)
  exact Ev.bind (f := fun k t265 => (if t265 = true then ((cohousingref36_Valid.f k l).bind fun t266 => (if t266 = true then ((cohousingref36_Observations.f k seen (l.length : Int)).bind fun t267 => (if t267 = true then ((cohousingref36_Day.f day).bind fun t268 => (some t268)) else (some false))) else (some false))) else (some false))) h1 (by
    cases fewB l seen.length with
    | false => exact Ev.ret fun k => by simp
    | true => simpa only [if_true, Bool.true_and] using e2)
theorem usable_valid {l : List S44} {seen : List S48} {day : Int} (h : usableB l seen day = true) : validB l = true ∧ obsB seen l.length = true ∧ dayB day = true ∧ fewB l seen.length = true := by
  unfold usableB at h
  simp only [Bool.and_eq_true] at h
  exact ⟨h.2.1, h.2.2.1, h.2.2.2, h.1⟩

theorem runB_pre (l : List S44) (free : List Bool) : ∀ d, d ≤ l.length → (runB l free).take (l.length - d) = runB (l.take (l.length - d)) free
  | 0, _ => by rw [Nat.sub_zero, List.take_length, List.take_of_length_le (by rw [runB_len]; exact Nat.le_refl _)]
  | d + 1, h => by
    have ih := runB_pre l free d (by omega)
    obtain ⟨k, hk⟩ : ∃ k, k = l.length - (d + 1) := ⟨_, rfl⟩
    have hk1 : l.length - d = k + 1 := by omega
    rw [← hk]
    rw [hk1] at ih
    have h1 : (runB l free).take k = ((runB l free).take (k + 1)).take k := by rw [List.take_take, Nat.min_eq_left (by omega)]
    rw [h1, ih, runB_take l free k (by omega)]
    have h2 := runB_len_take l free k (by omega)
    rw [List.take_append_of_le_length (by omega), List.take_of_length_le (by omega)]
theorem runB_take' (l : List S44) (free : List Bool) (i : Nat) (hi : i ≤ l.length) : (runB l free).take i = runB (l.take i) free := by
  have h := runB_pre l free (l.length - i) (by omega)
  rwa [show l.length - (l.length - i) = i by omega] at h
theorem getD_take {α : Type} (z : α) (X : List α) (i j : Nat) (h : j < i) : (X.take i).getD j z = X.getD j z := by
  simp [List.getD_eq_getElem?_getD, List.getElem?_take, h]
theorem runB_get (l : List S44) (free : List Bool) (i : Nat) (hi : i < l.length) : (runB l free).getD i false = oneB (rd_T44 l i) (freeOf (l.take i)).length free (runB (l.take i) free) := by
  rw [← getD_take false (runB l free) (i + 1) i (by omega), runB_take' l free (i + 1) (by omega), runB_take l free i hi]
  have h2 := runB_len_take l free i (by omega)
  simp [List.getD_eq_getElem?_getD, List.getElem?_append_right (show (runB (l.take i) free).length ≤ i by omega), h2]
/-- The value of a variable with parents, out of the values of all. -/
theorem runB_at (l : List S44) (hb : Back l) (free : List Bool) (i : Nat) (hi : i < l.length) (h0 : ¬ (rd_T44 l i).f1.length = 0) :
    (runB l free).getD i false = rdOf false (rd_T44 l i).f2 (atF (fun p => (runB l free).getD p.toNat false) (rd_T44 l i).f1 (rd_T44 l i).f1.length : Nat) := by
  have h := runB_get l free i hi
  unfold oneB at h
  rw [if_neg h0] at h
  rw [h, atF_congr (b := fun p => (runB (l.take i) free).getD p.toNat false) (c := fun p => (runB l free).getD p.toNat false) _ (fun p hp => ?_) _ (Nat.le_refl _)]
  have hbp := hb i hi p hp
  rw [← runB_take' l free i (by omega)]
  exact getD_take false _ _ _ (by omega)

theorem agS_sorted (l : List S44) (seen : List S48) (day : Int) : (agS l seen day).Pairwise (· < ·) := List.Pairwise.filter _ List.pairwise_lt_range
theorem stBits_stF (free : List Bool) : stBits free.length (stF free free.length free.length) = free := by
  refine List.ext_getElem (stBits_len _ _) (fun i h1 h2 => ?_)
  have h := stBits_get free.length (stF free free.length free.length) i h2
  rw [stF_bit free free.length i h2 free.length (Nat.le_refl _), decide_eq_true h2, Bool.true_and] at h
  rw [List.getD_eq_getElem?_getD, List.getD_eq_getElem?_getD, List.getElem?_eq_getElem h1, List.getElem?_eq_getElem h2] at h
  exact h
theorem agS_mem (l : List S44) (seen : List S48) (day : Int) (s : Nat) : s ∈ agS l seen day ↔ s < 2 ^ (freeOf l).length ∧ agB l seen day s = true := by
  unfold agS
  rw [List.mem_filter, List.mem_range]
/-- A state is among the states that agree exactly if it agrees. -/
theorem mem_states (l : List S44) (seen : List S48) (day : Int) (free : List Bool) (hv : validB l = true) (ho : obsB seen l.length = true) (hf : free.length = (freeOf l).length) : decide (free ∈ statesB l seen day) = agreesB (runB l free) seen day := by
  have hb := valid_back hv
  have hs := obs_bound ho
  rw [Bool.eq_iff_iff, decide_eq_true_eq]
  unfold statesB
  rw [List.mem_map]
  constructor
  · rintro ⟨s, hm, rfl⟩
    rw [agS_mem, agB_eq l hb seen day hs] at hm
    exact hm.2
  · intro h
    refine ⟨stF free free.length free.length, ?_, ?_⟩
    · rw [agS_mem, agB_eq l hb seen day hs]
      refine ⟨?_, ?_⟩
      · rw [← hf]; exact stF_lt free free.length free.length (Nat.le_refl _)
      · rw [← hf, stBits_stF]; exact h
    · rw [← hf, stBits_stF]
theorem mem_snoc (x y : List Bool) (X : List (List Bool)) : decide (x ∈ X ++ [y]) = (decide (x ∈ X) || decide (y = x)) := by
  rw [Bool.eq_iff_iff]
  simp only [decide_eq_true_eq, Bool.or_eq_true, List.mem_append, List.mem_singleton]
  constructor
  · rintro (h | h)
    · exact .inl h
    · exact .inr h.symm
  · rintro (h | h)
    · exact .inl h
    · exact .inr h.symm

theorem obs_sub {seen sub : List S48} {n : Nat} (h : obsB seen n = true) (hs : ∀ s ∈ sub, s ∈ seen) (hl : sub.length ≤ seen.length) : obsB sub n = true := by
  unfold obsB at *
  simp only [Bool.and_eq_true, decide_eq_true_eq, Bool.not_eq_true'] at *
  refine ⟨by omega, ?_⟩
  rw [List.any_eq_false] at *
  exact fun x hx => h.2 x (hs x hx)
/-- What is blamed, for the states that agree. -/
def blameX (l : List S44) (X : List Nat) (d : Nat) : List Int × List Int × Int := if X.length = 0 then ([], [], 4) else (partyL (sureB l X d) 64, partyL (maybeB l X d) 64, 0)
theorem blameV_x (l : List S44) (seen : List S48) (day : Int) (d : Nat) (hv : validB l = true) (ho : obsB seen l.length = true) (hd : dayB day = true) (hlt : d < l.length) : blameV l seen day (d : Int) = blameX l (agS l seen day) d := by
  unfold blameV blameX
  rw [seenB_obs, hv, ho, hd, decide_eq_true (show 0 ≤ (d : Int) by omega), decide_eq_true (show (d : Int) < (l.length : Int) by omega), Int.toNat_natCast]
  simp only [Bool.and_self, if_true]
theorem statesV_x (l : List S44) (seen : List S48) (day : Int) (hv : validB l = true) (ho : obsB seen l.length = true) (hd : dayB day = true) : statesV l seen day = (statesB l seen day, 0) := by
  unfold statesV
  rw [seenB_obs, hv, ho, hd]
  rfl
theorem tmod_nat (a : Int) (n : Nat) (ha : 0 ≤ a) (hb : a < 256) (hn : 0 < n) : ∃ d : Nat, d < n ∧ Int.tmod (wrap64 a) (n : Int) = (d : Int) := by
  obtain ⟨x, rfl⟩ := Int.eq_ofNat_of_zero_le ha
  refine ⟨x % n, Nat.mod_lt _ hn, ?_⟩
  rw [show wrap64 (x : Int) = (x : Int) from by unfold wrap64; omega]
  rfl

theorem partyL_in (b c : Int → Bool) (k : Nat) (h : ∀ p, b p = true → c p = true) : inB (partyL b k) (partyL c k) = true := by
  unfold inB
  rw [List.all_eq_true]
  intro x hx
  unfold partyL at *
  rw [List.mem_filter] at hx
  rw [List.contains_iff_mem, List.mem_filter]
  exact ⟨hx.1, h x hx.2⟩
theorem cnt_all (l : List S44) (X : List Nat) (d : Nat) (p : Int) : cntB l X d p = X.length ↔ ∀ s ∈ X, blB l d (maskOf l p) s = true := by
  unfold cntB
  exact List.length_filter_eq_length_iff
theorem cnt_some (l : List S44) (X : List Nat) (d : Nat) (p : Int) : 0 < cntB l X d p ↔ ∃ s ∈ X, blB l d (maskOf l p) s = true := by
  unfold cntB
  exact List.length_filter_pos_iff
theorem sure_maybe (l : List S44) (X : List Nat) (d : Nat) (hX : ¬ X.length = 0) (p : Int) (h : sureB l X d p = true) : maybeB l X d p = true := by
  unfold sureB maybeB at *
  simp only [Bool.and_eq_true, decide_eq_true_eq] at *
  exact ⟨h.1, by omega⟩
theorem sure_sub (l : List S44) (X Y : List Nat) (d : Nat) (hs : ∀ s ∈ Y, s ∈ X) (p : Int) (h : sureB l X d p = true) : sureB l Y d p = true := by
  unfold sureB at *
  simp only [Bool.and_eq_true, decide_eq_true_eq] at *
  rw [cnt_all] at *
  exact ⟨h.1, fun s hs' => h.2 s (hs s hs')⟩
theorem maybe_sub (l : List S44) (X Y : List Nat) (d : Nat) (hs : ∀ s ∈ Y, s ∈ X) (p : Int) (h : maybeB l Y d p = true) : maybeB l X d p = true := by
  unfold maybeB at *
  simp only [Bool.and_eq_true, decide_eq_true_eq] at *
  rw [cnt_some] at *
  obtain ⟨s, h1, h2⟩ := h.2
  exact ⟨h.1, s, hs s h1, h2⟩
end Go.Proofs.Ytjdhnhfglpogmaa.P
