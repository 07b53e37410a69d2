/- Which lists of variables are valid: the program and its reference ask the same. -/
import Derived.Test.YtjdhnhfglpogmaaLoops
import Derived.Test.YtjdhnhfglpogmaaSem
import Derived.Test.YtjdhnhfglpogmaaPx4
import Derived.Test.YtjdhnhfglpogmaaPx2
set_option linter.unusedSimpArgs false
set_option linter.unusedVariables false
namespace Go.Proofs.Ytjdhnhfglpogmaa.P
open Go.RowKit Go.Proofs.YtjdhnhfglpogmaaW.PrintWords Go.Proofs.YtjdhnhfglpogmaaW.PrintLast Go.Proofs.YtjdhnhfglpogmaaW.PrintMore

def rOk (ps : List Int) (below : Int) (j : Nat) : Bool := decide (0 ≤ rd ps j) && (decide (rd ps j < below) && (decide (j = 0) || decide (rd ps ((j - 1 : Nat) : Int) < rd ps j)))
def risingB (ps : List Int) (below : Int) : Bool := (List.range ps.length).all (rOk ps below)
def varB (v : S44) (i : Int) : Bool := if v.f1.length = 0 then decide (v.f2.length = 0) && (decide (0 ≤ v.f0) && decide (v.f0 ≤ 64)) else risingB v.f1 i && (decide (v.f1.length ≤ 4) && (decide ((v.f2.length : Int) = shl .i64 1 v.f1.length) && decide (v.f0 = 0)))
def validB (l : List S44) : Bool := decide (l.length ≤ 12) && (List.range l.length).all (fun i => varB (rd_T44 l i) i)

theorem ref_rising (ps : List Int) (below : Int) (hl : ps.length ≤ 9223372036854775807) : Ev (fun k => cohousingref36_rising.f k ps below) (risingB ps below) := by
  have h : Ev (fun k => cohousingref36_rising.l0 k ps below ((0 : Nat) : Int)) (if (List.range ps.length).all (rOk ps below) then true else false) := by
    refine loop_all0 (g := fun k i => cohousingref36_rising.l0 k ps below (i : Nat)) (p := rOk ps below) ?_ ?_ ?_
    · intro i hi hp
      have c1 : (i : Int) < (ps.length : Int) := by omega
      have c2 : 0 ≤ (i : Int) := by omega
      unfold rOk at hp
      refine Ev.ret fun k => ?_
      simp only [cohousingref36_rising.l0, if_pos c1, if_pos c2]
      by_cases h1 : rd ps i < 0
      · rw [if_pos h1]
      · rw [if_neg h1]
        by_cases h2 : rd ps i ≥ below
        · rw [if_pos h2]
        · rw [if_neg h2]
          have e1 : decide (0 ≤ rd ps i) = true := by simp; omega
          have e2 : decide (rd ps i < below) = true := by simp; omega
          rw [e1, e2] at hp
          simp only [Bool.true_and, Bool.or_eq_false_iff, decide_eq_false_iff_not] at hp
          obtain ⟨h3, h4⟩ := hp
          rw [wrapM i (by omega) (by omega)]
          rw [if_pos (by omega), if_pos (by omega), if_pos (by omega), if_pos (by omega)]
    · intro i hi hp r hr
      have c1 : (i : Int) < (ps.length : Int) := by omega
      have c2 : 0 ≤ (i : Int) := by omega
      unfold rOk at hp
      simp only [Bool.and_eq_true, decide_eq_true_eq, Bool.or_eq_true] at hp
      obtain ⟨h1, h2, h3⟩ := hp
      refine Ev.step (fun k => ?_) hr
      simp only [cohousingref36_rising.l0, if_pos c1, if_pos c2]
      rw [if_neg (by omega), if_neg (by omega), wrapN i (by omega)]
      by_cases h0 : i = 0
      · rw [if_neg (by omega)]
      · rw [if_pos (by omega), wrapM i (by omega) (by omega), if_pos (by omega), if_pos (by omega), if_neg (by omega)]
    · refine Ev.ret fun k => ?_
      simp only [cohousingref36_rising.l0]
      rw [if_neg (by omega)]
  unfold cohousingref36_rising.f
  have e : risingB ps below = (if (List.range ps.length).all (rOk ps below) then true else false) := by unfold risingB; cases (List.range ps.length).all (rOk ps below) <;> rfl
  rw [e]
  exact h

theorem cause_var (v : S44) (i : Nat) (hl : v.f1.length ≤ 9223372036854775807) : Ev (fun k => cause_valid.f k v.f0 v.f1 v.f2 i) (varB v i) := by
  by_cases h0 : v.f1.length = 0
  · have e : varB v i = (decide (v.f2.length = 0) && (decide (0 ≤ v.f0) && decide (v.f0 ≤ 64))) := by unfold varB; rw [if_pos h0]
    rw [e]
    refine ⟨0, fun k _ => ?_⟩
    simp only [cause_valid.f]
    rw [if_pos (by omega)]
    by_cases h1 : v.f2.length = 0
    · rw [if_pos (by omega)]
      by_cases h2 : 0 ≤ v.f0
      · rw [if_pos h2]; simp [h1, h2]
      · rw [if_neg h2]; simp [h1, h2]
    · rw [if_neg (by omega)]; simp [h1]
  · have e : varB v i = (if (List.range v.f1.length).all (rOk v.f1 i) then (decide (v.f1.length ≤ 4) && (decide ((v.f2.length : Int) = shl .i64 1 v.f1.length) && decide (v.f0 = 0))) else false) := by
      unfold varB risingB
      rw [if_neg h0]
      cases (List.range v.f1.length).all (rOk v.f1 i) <;> rfl
    rw [e]
    have h : Ev (fun k => cause_valid.l0 k i v.f1 v.f1.length ((0 : Nat) : Int) v.f0 v.f1 v.f2) (if (List.range v.f1.length).all (rOk v.f1 i) then (decide (v.f1.length ≤ 4) && (decide ((v.f2.length : Int) = shl .i64 1 v.f1.length) && decide (v.f0 = 0))) else false) := by
      refine loop_all0 (g := fun k j => cause_valid.l0 k i v.f1 v.f1.length (j : Nat) v.f0 v.f1 v.f2) (p := rOk v.f1 i) ?_ ?_ ?_
      · intro j hj hp
        have c1 : (j : Int) < (v.f1.length : Int) := by omega
        have c2 : 0 ≤ (j : Int) := by omega
        unfold rOk at hp
        refine Ev.ret fun k => ?_
        simp only [cause_valid.l0, if_pos c1, if_pos c2]
        by_cases h1 : rd v.f1 j < 0
        · rw [if_pos h1]
        · rw [if_neg h1]
          by_cases h2 : rd v.f1 j ≥ i
          · rw [if_pos h2]
          · rw [if_neg h2]
            have e1 : decide (0 ≤ rd v.f1 j) = true := by simp; omega
            have e2 : decide (rd v.f1 j < i) = true := by simp; omega
            rw [e1, e2] at hp
            simp only [Bool.true_and, Bool.or_eq_false_iff, decide_eq_false_iff_not] at hp
            obtain ⟨h3, h4⟩ := hp
            rw [wrapM j (by omega) (by omega)]
            rw [if_pos (by omega), if_pos (by omega), if_pos (by omega), if_pos (by omega)]
      · intro j hj hp r hr
        have c1 : (j : Int) < (v.f1.length : Int) := by omega
        have c2 : 0 ≤ (j : Int) := by omega
        unfold rOk at hp
        simp only [Bool.and_eq_true, decide_eq_true_eq, Bool.or_eq_true] at hp
        obtain ⟨h1, h2, h3⟩ := hp
        refine Ev.step (fun k => ?_) hr
        simp only [cause_valid.l0, if_pos c1, if_pos c2]
        rw [if_neg (by omega), if_neg (by omega), wrapN j (by omega)]
        by_cases h0 : j = 0
        · rw [if_neg (by omega)]
        · rw [if_pos (by omega), wrapM j (by omega) (by omega), if_pos (by omega), if_pos (by omega), if_neg (by omega)]
      · refine Ev.ret fun k => ?_
        simp only [cause_valid.l0]
        rw [if_neg (by omega)]
        by_cases h1 : v.f1.length ≤ 4
        · rw [if_pos (by omega)]
          by_cases h2 : (v.f2.length : Int) = shl .i64 1 v.f1.length
          · rw [if_pos h2]; simp [h1, h2]; rfl
          · rw [if_neg h2]; simp [h1, h2]
        · rw [if_neg (by omega)]; simp [h1]
    unfold cause_valid.f
    refine Ev.congr (fun k => ?_) h
    rw [if_neg (by omega)]
    rfl
theorem cause_valid_ev (l : List S44) (hw : ∀ v ∈ l, v.f1.length ≤ 9223372036854775807) : Ev (fun k => cause_Valid.f k l) (validB l) := by
  by_cases hl : l.length ≤ 12
  · have h : Ev (fun k => cause_Valid.l0 k l l.length ((0 : Nat) : Int)) (if (List.range l.length).all (fun i => varB (rd_T44 l i) i) then true else false) := by
      have hm : ∀ i, i < l.length → rd_T44 l (i : Int) ∈ l := fun i hi => by simp [rd_T44, List.getD_eq_getElem?_getD, List.getElem?_eq_getElem hi]
      refine loop_all0 (g := fun k j => cause_Valid.l0 k l l.length (j : Nat)) (p := fun i => varB (rd_T44 l i) i) ?_ ?_ ?_
      · intro i hi hp
        have c1 : (i : Int) < (l.length : Int) := by omega
        have c2 : 0 ≤ (i : Int) := by omega
        have hv := cause_var (rd_T44 l i) i (hw _ (hm i hi))
        rw [hp] at hv
        refine Ev.step (fun k => ?_) (Ev.bind (f := fun k t => if t = true then cause_Valid.l0 k l l.length (wrap64 ((i : Int) + 1)) else some false) hv (Ev.now false))
        simp only [cause_Valid.l0, if_pos c1, if_pos c2]
      · intro i hi hp r hr
        have c1 : (i : Int) < (l.length : Int) := by omega
        have c2 : 0 ≤ (i : Int) := by omega
        have hv := cause_var (rd_T44 l i) i (hw _ (hm i hi))
        rw [hp] at hv
        refine Ev.step (fun k => ?_) (Ev.bind (f := fun k t => if t = true then cause_Valid.l0 k l l.length ((i + 1 : Nat) : Int) else some false) hv (by simpa using hr))
        simp only [cause_Valid.l0, if_pos c1, if_pos c2]
        rw [wrapN i (by omega)]
      · refine Ev.ret fun k => ?_
        simp only [cause_Valid.l0]
        rw [if_neg (by omega)]
    have e : validB l = (if (List.range l.length).all (fun i => varB (rd_T44 l i) i) then true else false) := by
      unfold validB
      rw [decide_eq_true hl, Bool.true_and]
      cases (List.range l.length).all (fun i => varB (rd_T44 l i) i) <;> rfl
    rw [e]
    unfold cause_Valid.f
    refine Ev.congr (fun k => ?_) h
    rw [if_neg (by omega)]
    rfl
  · have e : validB l = false := by unfold validB; rw [decide_eq_false hl, Bool.false_and]
    rw [e]
    refine ⟨0, fun k _ => ?_⟩
    simp only [cause_Valid.f]
    rw [if_pos (by omega)]

theorem ref_valid_ev (l : List S44) (hw : ∀ v ∈ l, v.f1.length ≤ 9223372036854775807) : Ev (fun k => cohousingref36_Valid.f k l) (validB l) := by
  by_cases hl : l.length ≤ 12
  · have h : Ev (fun k => cohousingref36_Valid.l0 k l ((0 : Nat) : Int)) (if (List.range l.length).all (fun i => varB (rd_T44 l i) i) then true else false) := by
      have hm : ∀ i, i < l.length → rd_T44 l (i : Int) ∈ l := fun i hi => by simp [rd_T44, List.getD_eq_getElem?_getD, List.getElem?_eq_getElem hi]
      have j2 : ∀ (i : Nat) (v : S44) (b : Bool) (r : Bool), i < 12 → (b = false → (v.f1.length = 0 ∨ (v.f2.length : Int) = shl .i64 1 v.f1.length ∧ v.f0 = 0) → Ev (fun k => cohousingref36_Valid.l0 k l ((i + 1 : Nat) : Int)) r) →
          (b = true ∨ ¬ (v.f1.length = 0 ∨ (v.f2.length : Int) = shl .i64 1 v.f1.length ∧ v.f0 = 0) → r = false) → Ev (fun k => cohousingref36_Valid.j2 k l i b v.f0 v.f1 v.f2) r := by
        intro i v b r hi h1 h2
        cases b with
        | true =>
          rw [h2 (.inl rfl)]
          refine Ev.ret fun k => ?_
          simp only [cohousingref36_Valid.j2, if_true]
        | false =>
          by_cases h0 : v.f1.length = 0
          · refine Ev.step (fun k => ?_) (h1 rfl (.inl h0))
            simp only [cohousingref36_Valid.j2, Bool.false_eq_true, if_false]
            rw [if_neg (by omega), wrapN i (by omega)]
          · by_cases h3 : (v.f2.length : Int) = shl .i64 1 v.f1.length
            · by_cases h4 : v.f0 = 0
              · refine Ev.step (fun k => ?_) (h1 rfl (.inr ⟨h3, h4⟩))
                simp only [cohousingref36_Valid.j2, Bool.false_eq_true, if_false]
                rw [if_pos (by omega), if_pos h3, if_pos h4, wrapN i (by omega)]
              · rw [h2 (.inr (by simp only [h0, h4, false_or, and_false, not_false_eq_true]))]
                refine Ev.ret fun k => ?_
                simp only [cohousingref36_Valid.j2, Bool.false_eq_true, if_false]
                rw [if_pos (by omega), if_pos h3, if_neg h4]
            · rw [h2 (.inr (by simp only [h0, h3, false_or, false_and, not_false_eq_true]))]
              refine Ev.ret fun k => ?_
              simp only [cohousingref36_Valid.j2, Bool.false_eq_true, if_false]
              rw [if_pos (by omega), if_neg h3]
      have j1 : ∀ (i : Nat) (v : S44) (b : Bool) (r : Bool), i < 12 → (b = false → (v.f1.length = 0 → v.f2.length = 0 ∧ 0 ≤ v.f0 ∧ v.f0 ≤ 64) → (v.f1.length = 0 ∨ (v.f2.length : Int) = shl .i64 1 v.f1.length ∧ v.f0 = 0) → Ev (fun k => cohousingref36_Valid.l0 k l ((i + 1 : Nat) : Int)) r) →
          (b = true ∨ ¬ (v.f1.length = 0 → v.f2.length = 0 ∧ 0 ≤ v.f0 ∧ v.f0 ≤ 64) ∨ ¬ (v.f1.length = 0 ∨ (v.f2.length : Int) = shl .i64 1 v.f1.length ∧ v.f0 = 0) → r = false) → Ev (fun k => cohousingref36_Valid.j1 k l i b v.f0 v.f1 v.f2) r := by
        intro i v b r hi h1 h2
        cases b with
        | true =>
          rw [h2 (.inl rfl)]
          refine Ev.ret fun k => ?_
          simp only [cohousingref36_Valid.j1, if_true]
        | false =>
          by_cases h0 : v.f1.length = 0
          · by_cases h3 : v.f2.length = 0
            · by_cases h4 : v.f0 < 0
              · refine Ev.step (fun k => ?_) (j2 i v true r hi (fun e => by cases e) (fun _ => h2 (.inr (.inl (fun q => by have := q h0; omega)))))
                simp only [cohousingref36_Valid.j1, Bool.false_eq_true, if_false]
                rw [if_pos (by omega), if_pos (by omega), if_pos h4]
              · refine Ev.step (fun k => ?_) (j2 i v (decide (v.f0 > 64)) r hi (fun e g => h1 rfl (fun _ => by have := of_decide_eq_false e; exact ⟨h3, by omega, by omega⟩) g) (fun g => by
                  rcases g with g | g
                  · have := of_decide_eq_true g
                    exact h2 (.inr (.inl (fun q => by have := q h0; omega)))
                  · exact h2 (.inr (.inr g))))
                simp only [cohousingref36_Valid.j1, Bool.false_eq_true, if_false]
                rw [if_pos (by omega), if_pos (by omega), if_neg h4]
            · refine Ev.step (fun k => ?_) (j2 i v true r hi (fun e => by cases e) (fun _ => h2 (.inr (.inl (fun q => h3 (q h0).1)))))
              simp only [cohousingref36_Valid.j1, Bool.false_eq_true, if_false]
              rw [if_pos (by omega), if_neg (by omega)]
          · refine Ev.step (fun k => ?_) (j2 i v false r hi (fun _ g => h1 rfl (fun q => absurd q h0) g) (fun g => by
              rcases g with g | g
              · cases g
              · exact h2 (.inr (.inr g))))
            simp only [cohousingref36_Valid.j1, Bool.false_eq_true, if_false]
            rw [if_neg (by omega)]
      have one : ∀ (i : Nat) (r : Bool), i < l.length → (varB (rd_T44 l i) i = true → Ev (fun k => cohousingref36_Valid.l0 k l ((i + 1 : Nat) : Int)) r) → (varB (rd_T44 l i) i = false → r = false) → Ev (fun k => cohousingref36_Valid.l0 k l (i : Nat)) r := by
        intro i r hi h1 h2
        have c1 : (i : Int) < (l.length : Int) := by omega
        have c2 : 0 ≤ (i : Int) := by omega
        have hwv := hw _ (hm i hi)
        generalize hv : rd_T44 l (i : Int) = v at *
        have hrb := ref_rising v.f1 i hwv
        by_cases h4 : v.f1.length ≤ 4
        · refine Ev.step (fun k => ?_) (Ev.bind (f := fun k t => cohousingref36_Valid.j1 k l i (!t) v.f0 v.f1 v.f2) hrb (j1 i v (!(risingB v.f1 i)) r (by omega) ?_ ?_))
          · simp only [cohousingref36_Valid.l0, if_pos c1, if_pos c2, hv]
            rw [if_neg (by omega)]
          · intro hb g1 g2
            refine h1 ?_
            unfold varB
            by_cases h0 : v.f1.length = 0
            · obtain ⟨q1, q2, q3⟩ := g1 h0
              rw [if_pos h0]
              simp [q1, q2, q3]
            · rw [if_neg h0]
              rcases g2 with g2 | ⟨g2, g3⟩
              · exact absurd g2 h0
              · have : risingB v.f1 i = true := by simpa using hb
                simp only [this, h4, g2, g3, decide_true, Bool.and_self]
          · intro hb
            refine h2 ?_
            unfold varB
            by_cases h0 : v.f1.length = 0
            · rw [if_pos h0]
              have hnil : v.f1 = [] := List.eq_nil_of_length_eq_zero h0
              rcases hb with hb | hb | hb
              · rw [hnil] at hb; simp [risingB] at hb
              · by_cases q1 : v.f2.length = 0
                · by_cases q2 : 0 ≤ v.f0
                  · by_cases q3 : v.f0 ≤ 64
                    · exact absurd (fun _ => ⟨q1, q2, q3⟩) hb
                    · simp only [q3, decide_false, Bool.and_false]
                  · simp only [q2, decide_false, Bool.false_and, Bool.and_false]
                · simp only [q1, decide_false, Bool.false_and]
              · exact absurd (.inl h0) hb
            · rw [if_neg h0]
              rcases hb with hb | hb | hb
              · have : risingB v.f1 i = false := by simpa using hb
                rw [this, Bool.false_and]
              · exact absurd (fun q => absurd q h0) hb
              · by_cases q1 : (v.f2.length : Int) = shl .i64 1 v.f1.length
                · by_cases q2 : v.f0 = 0
                  · exact absurd (.inr ⟨q1, q2⟩) hb
                  · simp only [q2, decide_false, Bool.and_false]
                · simp only [q1, decide_false, Bool.false_and, Bool.and_false]
        · rw [h2 (by unfold varB; rw [if_neg (by omega), decide_eq_false h4]; simp)]
          refine Ev.step (fun k => ?_) (j1 i v true false (by omega) (fun e => by cases e) (fun _ => rfl))
          simp only [cohousingref36_Valid.l0, if_pos c1, if_pos c2, hv]
          rw [if_pos (by omega)]
      refine loop_all0 (g := fun k j => cohousingref36_Valid.l0 k l (j : Nat)) (p := fun i => varB (rd_T44 l i) i) ?_ ?_ ?_
      · intro i hi hp
        exact one i false hi (fun h => by simp [h] at hp) (fun _ => rfl)
      · intro i hi hp r hr
        exact one i r hi (fun _ => hr) (fun h => by simp [h] at hp)
      · refine Ev.ret fun k => ?_
        simp only [cohousingref36_Valid.l0]
        rw [if_neg (by omega)]
    have e : validB l = (if (List.range l.length).all (fun i => varB (rd_T44 l i) i) then true else false) := by
      unfold validB
      rw [decide_eq_true hl, Bool.true_and]
      cases (List.range l.length).all (fun i => varB (rd_T44 l i) i) <;> rfl
    rw [e]
    refine Ev.congr (fun k => ?_) h
    simp only [cohousingref36_Valid.f]
    rw [if_neg (by omega)]
    rfl
  · have e : validB l = false := by unfold validB; rw [decide_eq_false hl, Bool.false_and]
    rw [e]
    refine ⟨0, fun k _ => ?_⟩
    simp only [cohousingref36_Valid.f]
    rw [if_pos (by omega)]
theorem mem_rd (l : List S44) {i : Nat} (hi : i < l.length) : rd_T44 l (i : Int) ∈ l := by simp [rd_T44, List.getD_eq_getElem?_getD, List.getElem?_eq_getElem hi]
theorem risingB_bound {ps : List Int} {below : Int} (h : risingB ps below = true) : ∀ p ∈ ps, 0 ≤ p ∧ p < below := by
  intro p hp
  obtain ⟨j, hj⟩ := List.getElem?_of_mem hp
  have hlt := (List.getElem?_eq_some_iff.1 hj).1
  have h1 := List.all_eq_true.1 h j (by simpa using hlt)
  have e : rd ps (j : Int) = p := by simp [rd, List.getD_eq_getElem?_getD, hj]
  unfold rOk at h1
  rw [e] at h1
  simp only [Bool.and_eq_true, decide_eq_true_eq] at h1
  exact ⟨h1.1, h1.2.1⟩
theorem shl_one (n : Nat) (h : n ≤ 4) : shl .i64 1 (n : Int) = ((2 ^ n : Nat) : Int) := by
  match n, h with
  | 0, _ => decide
  | 1, _ => decide
  | 2, _ => decide
  | 3, _ => decide
  | 4, _ => decide
theorem valid_len {l : List S44} (h : validB l = true) : l.length ≤ 12 := by
  unfold validB at h
  simp only [Bool.and_eq_true, decide_eq_true_eq] at h
  exact h.1
theorem valid_at {l : List S44} (h : validB l = true) {i : Nat} (hi : i < l.length) : varB (rd_T44 l i) i = true := by
  unfold validB at h
  simp only [Bool.and_eq_true] at h
  exact List.all_eq_true.1 h.2 i (by simpa using hi)
theorem valid_back {l : List S44} (h : validB l = true) : Back l := by
  intro i hi p hp
  have hv := valid_at h hi
  unfold varB at hv
  split at hv
  · rename_i h0
    rw [List.eq_nil_of_length_eq_zero h0] at hp
    simp at hp
  · simp only [Bool.and_eq_true] at hv
    exact risingB_bound hv.1 p hp
theorem valid_ok {l : List S44} (h : validB l = true) : ∀ v ∈ l, VarOk v := by
  intro v hv
  obtain ⟨i, hi⟩ := List.getElem?_of_mem hv
  have hlt := (List.getElem?_eq_some_iff.1 hi).1
  have e : rd_T44 l (i : Int) = v := by simp [rd_T44, List.getD_eq_getElem?_getD, hi]
  have hb := valid_back h i hlt
  have hl := valid_len h
  have ha := valid_at h hlt
  rw [e] at hb ha
  refine ⟨?_, fun p hp => by have := hb p hp; omega⟩
  unfold varB at ha
  split at ha
  · rename_i h0; exact .inl h0
  · simp only [Bool.and_eq_true, decide_eq_true_eq] at ha
    obtain ⟨_, h4, h2, _⟩ := ha
    rw [shl_one _ h4] at h2
    exact .inr ⟨h4, by omega⟩
theorem len63 {w : World} {A : Option Addr} {l : List S44} (h : Kd.C k44 w A l.length l) : ∀ v ∈ l, v.f1.length ≤ 9223372036854775807 := by
  intro v hv
  obtain ⟨i, hi⟩ := List.getElem?_of_mem hv
  have hlt := (List.getElem?_eq_some_iff.1 hi).1
  have e : rd_T44 l (i : Int) = v := by simp [rd_T44, List.getD_eq_getElem?_getD, hi]
  obtain ⟨ad, A1, c1, A2, c2, _, _, _, _, _, hi1, _, _⟩ := at_T44 h (i : Int) (by omega) (by omega)
  rw [e] at hi1
  exact hi1.2.1
end Go.Proofs.Ytjdhnhfglpogmaa.P
