/- The reference functions of layer 36, continued: run, Run, States, Blame. -/
import Derived.Test.YtjdhnhfglpogmaaPref
set_option linter.unusedSimpArgs false
set_option linter.unusedVariables false
namespace Go.Proofs.Ytjdhnhfglpogmaa.P
open Go.RowKit Go.Proofs.YtjdhnhfglpogmaaW.PrintWords Go.Proofs.YtjdhnhfglpogmaaW.PrintLast Go.Proofs.YtjdhnhfglpogmaaW.PrintMore

theorem atF_lt (b : Int → Bool) (ps : List Int) : ∀ j, atF b ps j < 2 ^ j
  | 0 => by simp [atF]
  | j + 1 => or_lt (Nat.lt_of_lt_of_le (atF_lt b ps j) (Nat.pow_le_pow_right (by omega) (by omega))) (ite_lt (by omega))
theorem or_add {a j : Nat} (h : a < 2 ^ j) : a ||| 2 ^ j = a + 2 ^ j := by
  have h1 := Nat.two_pow_add_eq_or_of_lt h 1
  rw [Nat.mul_one] at h1
  rw [Nat.or_comm, ← h1, Nat.add_comm]
theorem runB_len_take (l : List S44) (free : List Bool) (i : Nat) (hi : i ≤ l.length) : (runB (l.take i) free).length = i := by rw [runB_len, List.length_take]; omega

theorem run_ev (l : List S44) (hb : Back l) (hok : ∀ v ∈ l, VarOk v) (hl : l.length ≤ 12) (free : List Bool) (hf : free.length = (freeOf l).length) : Ev (fun k => cohousingref36_run.f k l free) (runB l free) := by
  have hfl : (freeOf l).length ≤ 12 := Nat.le_trans (freeAt_length l 0) hl
  have h : ∀ d i, l.length - i = d → i ≤ l.length → Ev (fun k => cohousingref36_run.l0 k l free (runB (l.take i) free) ((freeOf (l.take i)).length : Nat) (i : Nat)) (runB l free) := by
    intro d
    induction d with
    | zero =>
      intro i hd hi
      obtain rfl : i = l.length := by omega
      refine Ev.ret fun k => ?_
      simp only [cohousingref36_run.l0]
      rw [if_neg (by omega), List.take_length]
    | succ d ih =>
      intro i hd hi
      have c1 : (i : Int) < (l.length : Int) := by omega
      have c2 : 0 ≤ (i : Int) := by omega
      have hlen := runB_len_take l free i hi
      have hul : (freeOf (l.take i)).length ≤ 12 := Nat.le_trans (freeAt_length _ 0) (Nat.le_trans (List.length_take_le _ _) (by omega))
      have h2 := ih (i + 1) (by omega) (by omega)
      rw [freeOf_take l i (by omega), runB_take l free i (by omega)] at h2
      by_cases h0 : (rd_T44 l i).f1.length = 0
      · obtain ⟨f1, f2⟩ := free_rd l i (by omega) h0
        rw [if_pos h0, List.length_append] at h2
        unfold oneB at h2
        rw [if_pos h0] at h2
        refine Ev.step (fun k => ?_) h2
        simp only [cohousingref36_run.l0, if_pos c1, if_pos c2]
        rw [if_pos (by omega), if_pos (by omega), if_pos (by omega), if_pos (by omega), wrapN _ (by omega), wrapN i (by omega)]
        rfl
      · rw [if_neg h0, List.append_nil] at h2
        unfold oneB at h2
        rw [if_neg h0] at h2
        have hvo := hok _ (mem_rd l (show i < l.length by omega))
        have hback := hb i (by omega)
        generalize hv : rd_T44 l (i : Int) = v at *
        obtain ⟨hvo1, _⟩ := hvo
        have h4 : v.f1.length ≤ 4 := by omega
        have ht : v.f2.length = 2 ^ v.f1.length := by omega
        generalize runB (l.take i) free = out at *
        have hin : ∀ e j, v.f1.length - j = e → j ≤ v.f1.length → Ev (fun k => cohousingref36_run.l1 k l free out ((freeOf (l.take i)).length : Nat) (i : Nat) (atF (fun p => out.getD p.toNat false) v.f1 j : Nat) (j : Nat)) (runB l free) := by
          intro e
          induction e with
          | zero =>
            intro j he hj
            obtain rfl : j = v.f1.length := by omega
            have hat := atF_lt (fun p => out.getD p.toNat false) v.f1 v.f1.length
            refine Ev.step (fun k => ?_) h2
            simp only [cohousingref36_run.l1, if_pos c1, if_pos c2, hv]
            rw [if_neg (by omega), if_pos (by omega), if_pos (by omega), if_pos (by omega), wrapN i (by omega)]
          | succ e ihe =>
            intro j he hj
            have hat := atF_lt (fun p => out.getD p.toNat false) v.f1 j
            obtain ⟨p1, p2⟩ := hback _ (rd_mem (show j < v.f1.length by omega))
            have h3 := ihe (j + 1) (by omega) (by omega)
            simp only [atF] at h3
            have hpow : 2 ^ j ≤ 2 ^ 4 := Nat.pow_le_pow_right (by omega) (by omega)
            refine Ev.step (fun k => ?_) h3
            simp only [cohousingref36_run.l1, if_pos c1, if_pos c2, hv]
            rw [if_pos (by omega), if_pos (by omega), if_pos p1, if_pos (by omega)]
            by_cases hbit : out.getD (rd v.f1 j).toNat false = true
            · rw [if_pos hbit, if_pos (show rdOf false out (rd v.f1 j) = true from hbit), or_add hat, shl_one j (by omega), wrapN j (by omega)]
              rw [show wrap64 ((atF (fun p => out.getD p.toNat false) v.f1 j : Int) + ((2 ^ j : Nat) : Int)) = ((atF (fun p => out.getD p.toNat false) v.f1 j + 2 ^ j : Nat) : Int) from by
                generalize 2 ^ j = q at *
                generalize atF (fun p => out.getD p.toNat false) v.f1 j = a at *
                unfold wrap64; omega]
            · rw [if_neg hbit, if_neg (show ¬ rdOf false out (rd v.f1 j) = true from hbit), Nat.or_zero, wrapN j (by omega)]
        have h5 := hin v.f1.length 0 (by omega) (by omega)
        refine Ev.step (fun k => ?_) h5
        simp only [cohousingref36_run.l0, if_pos c1, if_pos c2, hv]
        rw [if_neg (by omega)]
        rfl
  exact h l.length 0 (by omega) (by omega)
theorem Run_ev (l : List S44) (free : List Bool) (hw : ∀ v ∈ l, v.f1.length ≤ 9223372036854775807) : Ev (fun k => cohousingref36_Run.f k l free) (runV l free) := by
  have hv := ref_valid_ev l hw
  unfold runV
  cases hval : validB l with
  | false =>
    rw [hval] at hv
    exact Ev.bind (f := fun k t => if t = true then ((cohousingref36_Free.f k l).bind fun t141 => (if (free.length : Int) = (t141.length : Int) then ((cohousingref36_run.f k l free).bind fun t144 => (some (t144, (0 : Int)))) else (some (([] : List Bool), (1 : Int))))) else (some (([] : List Bool), (1 : Int)))) hv (Ev.now _)
  | true =>
    rw [hval] at hv
    have hlen := valid_len hval
    have hfr := free_ev l (by omega)
    refine Ev.bind (f := fun k t => if t = true then ((cohousingref36_Free.f k l).bind fun t141 => (if (free.length : Int) = (t141.length : Int) then ((cohousingref36_run.f k l free).bind fun t144 => (some (t144, (0 : Int)))) else (some (([] : List Bool), (1 : Int))))) else (some (([] : List Bool), (1 : Int)))) hv ?_
    show Ev (fun k => (cohousingref36_Free.f k l).bind fun t141 => (if (free.length : Int) = (t141.length : Int) then ((cohousingref36_run.f k l free).bind fun t144 => (some (t144, (0 : Int)))) else (some (([] : List Bool), (1 : Int))))) (if decide (free.length = (freeOf l).length) = true then (runB l free, 0) else ([], 1))
    refine Ev.bind (f := fun k t141 => (if (free.length : Int) = (t141.length : Int) then ((cohousingref36_run.f k l free).bind fun t144 => (some (t144, (0 : Int)))) else (some (([] : List Bool), (1 : Int))))) hfr ?_
    by_cases hf : free.length = (freeOf l).length
    · have hr := run_ev l (valid_back hval) (valid_ok hval) hlen free hf
      rw [decide_eq_true hf]
      refine Ev.congr (f := fun k => (cohousingref36_run.f k l free).bind fun t144 => (some (t144, (0 : Int)))) (fun k => by rw [if_pos (by omega)]) ?_
      exact Ev.bind (f := fun _ t => some (t, (0 : Int))) hr (Ev.now _)
    · rw [decide_eq_false hf]
      exact Ev.congr (f := fun _ => some (([] : List Bool), (1 : Int))) (fun k => by rw [if_neg (by omega)]) (Ev.now _)

theorem bit_i64 (s m : Nat) (hs : s < 2 ^ 32) : bits .and .i64 ((s : Int) / 2 ^ m) 1 = if s.testBit m then 1 else 0 := by
  have h1 : ((s : Int) / 2 ^ m) = ((s / 2 ^ m : Nat) : Int) := by simp
  have h2 : s / 2 ^ m < 2 ^ 32 := Nat.lt_of_le_of_lt (Nat.div_le_self _ _) hs
  rw [h1, show (1 : Int) = ((1 : Nat) : Int) from rfl, (bits_nat .i64 32 (by decide) i64_32 (s / 2 ^ m) 1 h2 (by decide)).1, and_one]
  have h3 : (s / 2 ^ m).testBit 0 = s.testBit m := by rw [← Nat.shiftRight_eq_div_pow, Nat.testBit_shiftRight, Nat.add_zero]
  rw [h3]
  split <;> rfl
theorem stBits_take (m s t : Nat) (ht : t < m) : (stBits m s).take (t + 1) = (stBits m s).take t ++ [s.testBit (m - 1 - t)] := by
  rw [List.take_succ_eq_append_getElem (by rw [stBits_len]; exact ht)]
  simp [stBits]
theorem state_ev (s m : Nat) (hm : m ≤ 12) (hs : s < 2 ^ 32) : Ev (fun k => cohousingref36_state.f k s m) (stBits m s) := by
  have h : ∀ d t, m - t = d → t ≤ m → Ev (fun k => cohousingref36_state.l0 k s ((stBits m s).take t) ((m : Int) - 1 - t)) (stBits m s) := by
    intro d
    induction d with
    | zero =>
      intro t hd ht
      obtain rfl : t = m := by omega
      refine Ev.ret fun k => ?_
      simp only [cohousingref36_state.l0]
      rw [if_neg (by omega), List.take_of_length_le (by rw [stBits_len]; omega)]
    | succ d ih =>
      intro t hd ht
      have h2 := ih (t + 1) (by omega) (by omega)
      rw [stBits_take m s t (by omega)] at h2
      have hl : ((stBits m s).take t).length ≤ 12 := Nat.le_trans (List.length_take_le _ _) (by omega)
      refine Ev.step (fun k => ?_) h2
      simp only [cohousingref36_state.l0]
      rw [if_pos (by omega), if_pos (by omega), if_pos (by omega)]
      have e1 : ((m : Int) - 1 - t).toNat = m - 1 - t := by omega
      have e2 : shr .i64 (s : Int) ((m : Int) - 1 - t) = (s : Int) / 2 ^ (m - 1 - t) := by unfold shr; rw [e1, Nat.min_eq_left (by simp [IntKind.bits]; omega)]
      rw [e2, bit_i64 s _ hs]
      rw [show wrap64 ((m : Int) - 1 - t - 1) = (m : Int) - 1 - ((t + 1 : Nat) : Int) from by unfold wrap64; omega]
      cases s.testBit (m - 1 - t) <;> rfl
  have h0 := h m 0 (by omega) (by omega)
  refine Ev.congr (fun k => ?_) h0
  simp only [cohousingref36_state.f, List.take_zero]
  rw [show wrap64 ((m : Int) - 1) = (m : Int) - 1 - ((0 : Nat) : Int) from by unfold wrap64; omega]

def agreesB (out : List Bool) (seen : List S48) (day : Int) : Bool := seen.all (fun s => !(decide (s.f2 ≤ day) && (out.getD s.f0.toNat false != s.f1)))
theorem agrees_ev (out : List Bool) (seen : List S48) (day : Int) (hs : ∀ s ∈ seen, 0 ≤ s.f0 ∧ s.f0 < (out.length : Int)) (hl : seen.length ≤ 1000) : Ev (fun k => cohousingref36_agrees.f k out seen day) (agreesB out seen day) := by
  have h : Ev (fun k => cohousingref36_agrees.l0 k out seen day ((0 : Nat) : Int)) (if (List.range seen.length).all (fun i => !(decide ((rd_T48 seen i).f2 ≤ day) && (out.getD (rd_T48 seen i).f0.toNat false != (rd_T48 seen i).f1))) then true else false) := by
    refine loop_all0 (g := fun k i => cohousingref36_agrees.l0 k out seen day (i : Nat)) (p := fun i => !(decide ((rd_T48 seen i).f2 ≤ day) && (out.getD (rd_T48 seen i).f0.toNat false != (rd_T48 seen i).f1))) ?_ ?_ ?_
    · intro i hi hp
      have c1 : (i : Int) < (seen.length : Int) := by omega
      have c2 : 0 ≤ (i : Int) := by omega
      have hm : rd_T48 seen i ∈ seen := by simp [rd_T48, List.getD_eq_getElem?_getD, List.getElem?_eq_getElem hi]
      obtain ⟨q1, q2⟩ := hs _ hm
      simp only [Bool.not_eq_false', Bool.and_eq_true, decide_eq_true_eq] at hp
      refine Ev.ret fun k => ?_
      simp only [cohousingref36_agrees.l0, if_pos c1, if_pos c2, if_pos hp.1, if_pos q1, if_pos q2]
      rw [if_pos (show (rdOf false out (rd_T48 seen i).f0 != (rd_T48 seen i).f1) = true from hp.2)]
    · intro i hi hp r hr
      have c1 : (i : Int) < (seen.length : Int) := by omega
      have c2 : 0 ≤ (i : Int) := by omega
      have hm : rd_T48 seen i ∈ seen := by simp [rd_T48, List.getD_eq_getElem?_getD, List.getElem?_eq_getElem hi]
      obtain ⟨q1, q2⟩ := hs _ hm
      refine Ev.step (fun k => ?_) hr
      simp only [cohousingref36_agrees.l0, if_pos c1, if_pos c2, if_pos q1, if_pos q2]
      rw [wrapN i (by omega)]
      by_cases hd : (rd_T48 seen i).f2 ≤ day
      · rw [if_pos hd]
        simp only [decide_eq_true hd, Bool.true_and, Bool.not_eq_true'] at hp
        rw [if_neg (by rw [show (rdOf false out (rd_T48 seen i).f0 != (rd_T48 seen i).f1) = false from hp]; simp)]
      · rw [if_neg hd]
    · refine Ev.ret fun k => ?_
      simp only [cohousingref36_agrees.l0]
      rw [if_neg (by omega)]
  have e : (if (List.range seen.length).all (fun i => !(decide ((rd_T48 seen i).f2 ≤ day) && (out.getD (rd_T48 seen i).f0.toNat false != (rd_T48 seen i).f1))) then true else false) = agreesB out seen day := by
    have h2 := all_range z48 seen (fun s => !(decide (s.f2 ≤ day) && (out.getD s.f0.toNat false != s.f1)))
    unfold agreesB
    rw [← h2]
    have h3 : (fun i : Nat => !(decide ((rd_T48 seen i).f2 ≤ day) && (out.getD (rd_T48 seen i).f0.toNat false != (rd_T48 seen i).f1))) = (fun i : Nat => !(decide ((seen.getD i z48).f2 ≤ day) && (out.getD (seen.getD i z48).f0.toNat false != (seen.getD i z48).f1))) := rfl
    rw [h3]
    cases (List.range seen.length).all (fun i => !(decide ((seen.getD i z48).f2 ≤ day) && (out.getD (seen.getD i z48).f0.toNat false != (seen.getD i z48).f1))) <;> rfl
  rw [← e]
  exact h

/-- The bits of a state and its list tell the same. -/
theorem val_bits (l : List S44) (hb : Back l) (s : Nat) : ∀ j, j < l.length → (valN l (initN (freeOf l) s (freeOf l).length) l.length).testBit j = (runB l (stBits (freeOf l).length s)).getD j false := by
  have h := (val_run l hb (stBits (freeOf l).length s) s (fun k hk => (stBits_get _ s k hk).symm) l.length (Nat.le_refl _)).1
  rw [List.take_length] at h
  exact h
theorem all_congr_mem {α : Type} (l : List α) (p q : α → Bool) (h : ∀ x ∈ l, p x = q x) : l.all p = l.all q := by
  induction l with
  | nil => rfl
  | cons x l ih => rw [List.all_cons, List.all_cons, h x (by simp), ih (fun y hy => h y (by simp [hy]))]
theorem agB_eq (l : List S44) (hb : Back l) (seen : List S48) (day : Int) (hs : ∀ s ∈ seen, 0 ≤ s.f0 ∧ s.f0 < (l.length : Int)) (s : Nat) : agB l seen day s = agreesB (runB l (stBits (freeOf l).length s)) seen day := by
  unfold agB agreesB
  refine all_congr_mem _ _ _ (fun x hx => ?_)
  have := hs x hx
  unfold okS
  rw [val_bits l hb s x.f0.toNat (by omega)]
theorem shl_one32 (n : Nat) (h : n < 32) : shl .i64 1 (n : Int) = ((2 ^ n : Nat) : Int) := by
  have hp := pow_lt32 h
  unfold shl
  rw [Int.toNat_natCast, Nat.min_eq_left (by simp [IntKind.bits]; omega), Int.one_mul, show ((2 : Int) ^ n) = ((2 ^ n : Nat) : Int) from by simp]
  generalize 2 ^ n = q at *
  exact i64_32 _ (by omega) (by omega)
theorem obs_bound {seen : List S48} {n : Nat} (h : obsB seen n = true) : ∀ s ∈ seen, 0 ≤ s.f0 ∧ s.f0 < (n : Int) := by
  intro s hs
  unfold obsB at h
  simp only [Bool.and_eq_true, Bool.not_eq_true'] at h
  have h1 := h.2
  rw [List.any_eq_false] at h1
  have h2 := h1 s hs
  unfold oddB at h2
  simp only [Bool.or_eq_true, decide_eq_true_eq, not_or] at h2
  omega
theorem obs_len {seen : List S48} {n : Nat} (h : obsB seen n = true) : seen.length ≤ 100 := by
  unfold obsB at h
  simp only [Bool.and_eq_true, decide_eq_true_eq] at h
  exact h.1
theorem seenB_obs (n : Nat) (seen : List S48) (day : Int) : seenB n seen day = (obsB seen n && dayB day) := rfl
theorem agS_le (l : List S44) (seen : List S48) (day : Int) (hl : l.length ≤ 12) : (agS l seen day).length ≤ 4096 := by
  have hfl : (freeOf l).length ≤ 12 := Nat.le_trans (freeAt_length l 0) hl
  have hpow : 2 ^ (freeOf l).length ≤ 2 ^ 12 := Nat.pow_le_pow_right (by omega) hfl
  exact Nat.le_trans (List.length_filter_le _ _) (by rw [List.length_range]; omega)
theorem States_ev (l : List S44) (seen : List S48) (day : Int) (hw : ∀ v ∈ l, v.f1.length ≤ 9223372036854775807) : Ev (fun k => cohousingref36_States.f k l seen day) (statesV l seen day) := by
  have hv := ref_valid_ev l hw
  have jt : Ev (fun k => cohousingref36_States.j0 k l seen day true) ([], 1) := Ev.ret fun k => by simp only [cohousingref36_States.j0, if_true]
  unfold statesV
  rw [seenB_obs]
  cases hval : validB l with
  | false =>
    rw [hval] at hv
    exact Ev.bind (f := fun k t166 => (if t166 = true then ((cohousingref36_Observations.f k seen (l.length : Int)).bind fun t167 => (if t167 = true then ((cohousingref36_Day.f day).bind fun t168 => (cohousingref36_States.j0 k l seen day (!t168))) else (cohousingref36_States.j0 k l seen day true))) else (cohousingref36_States.j0 k l seen day true))) hv jt
  | true =>
    rw [hval] at hv
    have hlen := valid_len hval
    have hob := obs_ev seen l.length
    refine Ev.bind (f := fun k t166 => (if t166 = true then ((cohousingref36_Observations.f k seen (l.length : Int)).bind fun t167 => (if t167 = true then ((cohousingref36_Day.f day).bind fun t168 => (cohousingref36_States.j0 k l seen day (!t168))) else (cohousingref36_States.j0 k l seen day true))) else (cohousingref36_States.j0 k l seen day true))) hv ?_
    cases hobs : obsB seen l.length with
    | false =>
      rw [hobs] at hob
      exact Ev.bind (f := fun k t167 => (if t167 = true then ((cohousingref36_Day.f day).bind fun t168 => (cohousingref36_States.j0 k l seen day (!t168))) else (cohousingref36_States.j0 k l seen day true))) hob jt
    | true =>
      rw [hobs] at hob
      refine Ev.bind (f := fun k t167 => (if t167 = true then ((cohousingref36_Day.f day).bind fun t168 => (cohousingref36_States.j0 k l seen day (!t168))) else (cohousingref36_States.j0 k l seen day true))) hob ?_
      refine Ev.congr (f := fun k => cohousingref36_States.j0 k l seen day (!(dayB day))) (fun k => by rw [day_ev]; rfl) ?_
      cases hday : dayB day with
      | false => exact jt
      | true =>
        have hfl : (freeOf l).length ≤ 12 := Nat.le_trans (freeAt_length l 0) hlen
        have hpow : 2 ^ (freeOf l).length ≤ 2 ^ 12 := Nat.pow_le_pow_right (by omega) hfl
        have hloop : ∀ d n, 2 ^ (freeOf l).length - n = d → n ≤ 2 ^ (freeOf l).length → Ev (fun k => cohousingref36_States.l0 k l seen day ((freeOf l).length : Nat) (((List.range n).filter (agB l seen day)).map (stBits (freeOf l).length)) (n : Nat)) (statesB l seen day, 0) := by
          intro d
          induction d with
          | zero =>
            intro n hd hn
            obtain rfl : n = 2 ^ (freeOf l).length := by omega
            refine Ev.ret fun k => ?_
            simp only [cohousingref36_States.l0]
            rw [if_pos (by omega), shl_one32 _ (by omega), if_neg (by omega)]
            rfl
          | succ d ih =>
            intro n hd hn
            have h2 := ih (n + 1) (by omega) (by omega)
            have hst := state_ev n (freeOf l).length hfl (by omega)
            have hrn := run_ev l (valid_back hval) (valid_ok hval) hlen (stBits (freeOf l).length n) (stBits_len _ _)
            have hbo := obs_bound hobs
            have hag := agrees_ev (runB l (stBits (freeOf l).length n)) seen day (fun s hs => by rw [runB_len]; exact hbo s hs) (by have := obs_len hobs; omega)
            rw [← agB_eq l (valid_back hval) seen day hbo n] at hag
            have hlim : (((List.range n).filter (agB l seen day)).map (stBits (freeOf l).length)).length ≤ 4096 := by
              rw [List.length_map]
              exact Nat.le_trans (List.length_filter_le _ _) (by rw [List.length_range]; omega)
            rw [List.range_succ, List.filter_append] at h2
            refine Ev.step (g := fun k => cohousingref36_States.l0 k l seen day ((freeOf l).length : Nat) (((List.range n).filter (agB l seen day)).map (stBits (freeOf l).length)) (n : Nat)) (fun k => ?_) (Ev.bind (f := fun k t172 => ((cohousingref36_run.f k l t172).bind fun t175 => ((cohousingref36_agrees.f k t175 seen day).bind fun t178 => (if t178 = true then cohousingref36_States.l0 k l seen day ((freeOf l).length : Nat) (((List.range n).filter (agB l seen day)).map (stBits (freeOf l).length) ++ [t172]) ((n + 1 : Nat) : Int) else cohousingref36_States.l0 k l seen day ((freeOf l).length : Nat) (((List.range n).filter (agB l seen day)).map (stBits (freeOf l).length)) ((n + 1 : Nat) : Int))))) hst (Ev.bind (f := fun k t175 => ((cohousingref36_agrees.f k t175 seen day).bind fun t178 => (if t178 = true then cohousingref36_States.l0 k l seen day ((freeOf l).length : Nat) (((List.range n).filter (agB l seen day)).map (stBits (freeOf l).length) ++ [stBits (freeOf l).length n]) ((n + 1 : Nat) : Int) else cohousingref36_States.l0 k l seen day ((freeOf l).length : Nat) (((List.range n).filter (agB l seen day)).map (stBits (freeOf l).length)) ((n + 1 : Nat) : Int)))) hrn (Ev.bind (f := fun k t178 => (if t178 = true then cohousingref36_States.l0 k l seen day ((freeOf l).length : Nat) (((List.range n).filter (agB l seen day)).map (stBits (freeOf l).length) ++ [stBits (freeOf l).length n]) ((n + 1 : Nat) : Int) else cohousingref36_States.l0 k l seen day ((freeOf l).length : Nat) (((List.range n).filter (agB l seen day)).map (stBits (freeOf l).length)) ((n + 1 : Nat) : Int))) hag ?_)))
            · simp only [cohousingref36_States.l0]
              rw [if_pos (by omega), shl_one32 _ (by omega), if_pos (by omega)]
              simp only [if_pos (show (((List.range n).filter (agB l seen day)).map (stBits (freeOf l).length)).length < 5864062014805 by omega), wrapN n (by omega)]
            · cases hc : agB l seen day n with
              | true =>
                simp only [List.filter_cons, List.filter_nil, hc, if_true, List.map_append, List.map_cons, List.map_nil] at h2
                exact h2
              | false =>
                simp only [List.filter_cons, List.filter_nil, hc, Bool.false_eq_true, if_false, List.append_nil] at h2
                exact h2
        have h0 := hloop (2 ^ (freeOf l).length) 0 (Nat.sub_zero _) (Nat.zero_le _)
        refine Ev.step (fun k => ?_) (Ev.bind (f := fun k (t169 : List Int) => cohousingref36_States.l0 k l seen day (t169.length : Int) ([] : List (List Bool)) 0) (free_ev l (by omega)) h0)
        simp only [cohousingref36_States.j0, Bool.not_true, Bool.false_eq_true, if_false]
end Go.Proofs.Ytjdhnhfglpogmaa.P
